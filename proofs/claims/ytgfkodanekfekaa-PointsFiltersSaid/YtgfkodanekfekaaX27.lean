-- Made by wip/xprint.py for this claim: the kit's printer over the translation, with hand-proved functions in their places. Lean checks it.
import Derived.Test.YtgfkodanekfekaaX0
import Derived.Test.YtgfkodanekfekaaX6
namespace Go.Proofs.Ytgfkodanekfekaa.X
open Go.RowKit Go.Proofs.YtgfkodanekfekaaW.PrintWords Go.Proofs.YtgfkodanekfekaaW.PrintLast Go.Proofs.YtgfkodanekfekaaW.PrintMore
attribute [local go_sem] max2_int min2_int max_two min_two max_three min_three max_four min_four   -- for this text's walks alone
set_option linter.unusedVariables false
set_option linter.unusedSimpArgs false

/-! ### metrolabref31_Box: function 35 -/
def metrolabref31_Box.l0 : Nat → List (S30) → Int → Int → Int → Int → Int → Int → Int → Option (Int × Int × Int × Int × Int × Int × Int)
  | 0, _, _, _, _, _, _, _, _ => none
  | k + 1, x0, x8, x457000, x457001, x457002, x458000, x458001, x458002 => if x8 < (x0.length : Int) then (if 0 ≤ x8 then (metrolabref31_Box.l0 k x0 (wrap64 (x8 + 1)) (mn x457000 ((rd_T30 x0 x8).f0)) (mn x457001 ((rd_T30 x0 x8).f1)) (mn x457002 ((rd_T30 x0 x8).f2)) (mx x458000 ((rd_T30 x0 x8).f0)) (mx x458001 ((rd_T30 x0 x8).f1)) (mx x458002 ((rd_T30 x0 x8).f2))) else (none)) else (some (x457000, x457001, x457002, x458000, x458001, x458002, 0))
def metrolabref31_Box.f (k : Nat) (l0 : List (S30)) : Option (Int × Int × Int × Int × Int × Int × Int) := (metrolabref07_CheckSpots.f k l0).bind fun t453 => (if t453 = 0 then (if (l0.length : Int) = 0 then (some (0, 0, 0, 0, 0, 0, 13)) else (if 0 < (l0.length : Int) then (metrolabref31_Box.l0 k l0 0 ((rd_T30 l0 0).f0) ((rd_T30 l0 0).f1) ((rd_T30 l0 0).f2) ((rd_T30 l0 0).f0) ((rd_T30 l0 0).f1) ((rd_T30 l0 0).f2)) else (none))) else (some (0, 0, 0, 0, 0, 0, t453)))
theorem metrolabref31_Box.mono_l : ∀ k, (∀ y0 y1 y2 y3 y4 y5 y6 y7, LeO (metrolabref31_Box.l0 k y0 y1 y2 y3 y4 y5 y6 y7) (metrolabref31_Box.l0 (k + 1) y0 y1 y2 y3 y4 y5 y6 y7))
  | 0 => fun _ _ _ _ _ _ _ _ r h => by simp [metrolabref31_Box.l0] at h
  | k + 1 => by
    have ih0 := metrolabref31_Box.mono_l k
    · intro y0 y1 y2 y3 y4 y5 y6 y7
      unfold metrolabref31_Box.l0
      repeat' first
      | (with_reducible exact ih0 _ _ _ _ _ _ _ _)
      | (with_reducible exact metrolabref07_CheckSpots.mono _ _)
      | (with_reducible exact LeO.refl _)
      | (with_reducible exact LeO.none _)
      | (with_reducible refine LeO.ite ?_ ?_)
      | (with_reducible refine LeO.bind ?_ (fun _ => ?_))
      | exact ih0 _ _ _ _ _ _ _ _
      | exact metrolabref07_CheckSpots.mono _ _
      | exact LeO.none _
      | refine LeO.ite ?_ ?_
      | refine LeO.bind ?_ (fun _ => ?_)
theorem metrolabref31_Box.mono : ∀ a0 k, LeO (metrolabref31_Box.f k a0) (metrolabref31_Box.f (k + 1) a0) := by
  intro a0 k
  have ih0 := metrolabref31_Box.mono_l k
  unfold metrolabref31_Box.f
  repeat' first
      | (with_reducible exact ih0 _ _ _ _ _ _ _ _)
      | (with_reducible exact metrolabref07_CheckSpots.mono _ _)
      | (with_reducible exact LeO.refl _)
      | (with_reducible exact LeO.none _)
      | (with_reducible refine LeO.ite ?_ ?_)
      | (with_reducible refine LeO.bind ?_ (fun _ => ?_))
      | exact ih0 _ _ _ _ _ _ _ _
      | exact metrolabref07_CheckSpots.mono _ _
      | exact LeO.none _
      | refine LeO.ite ?_ ?_
      | refine LeO.bind ?_ (fun _ => ?_)
def metrolabref31_Box.T6 : Bool × List (List Nat × List Nat) := (true, [([], []), ([0], [0]), ([1], [1]), ([], []), ([3], [3]), ([4], [4]), ([], []), ([], []), ([6, 2, 0, 1, 2, 6, 7], [2, 6]), ([7, 5, 8, 0, 1, 2, 3, 4, 5, 6, 7, 8], [5, 7])])
def metrolabref31_Box.B6 : List Nat := [0, 1, 3, 0, 8, 24, 0, 0, 199, 511]
theorem metrolabref31_Box.tab6 : rtab .any (opsOf Try.f35 6) = metrolabref31_Box.T6 := by kernel_rfl
theorem metrolabref31_Box.bits6 : waitsOk metrolabref31_Box.T6.2 metrolabref31_Box.B6 = true := by kernel_rfl
def metrolabref31_Box.T10 : Bool × List (List Nat × List Nat) := (true, [([], []), ([0], [0]), ([], []), ([], []), ([2, 3], [2, 3]), ([4], [4]), ([5], [5]), ([1, 6], [1, 6]), ([], []), ([8], [8]), ([], []), ([], []), ([10, 11], [10, 11]), ([12], [12]), ([13], [13]), ([9, 14], [9, 14]), ([], []), ([16], [16]), ([], []), ([], []), ([18, 19], [18, 19]), ([20], [20]), ([21], [21]), ([17, 22], [17, 22]), ([7, 15, 23], [7, 15, 23]), ([24, 0, 1, 2, 3, 4, 5, 6, 7, 8, 9, 10, 11, 12, 13, 14, 15, 16, 17, 18, 19, 20, 21, 22, 23, 24], [24])])
def metrolabref31_Box.B10 : List Nat := [0, 1, 0, 0, 12, 28, 60, 127, 0, 256, 0, 0, 3072, 7168, 15360, 32512, 0, 65536, 0, 0, 786432, 1835008, 3932160, 8323072, 16777215, 33554431]
theorem metrolabref31_Box.tab10 : rtab .any (opsOf Try.f35 10) = metrolabref31_Box.T10 := by kernel_rfl
theorem metrolabref31_Box.bits10 : waitsOk metrolabref31_Box.T10.2 metrolabref31_Box.B10 = true := by kernel_rfl
def metrolabref31_Box.T11 : Bool × List (List Nat × List Nat) := (true, [([], []), ([0], [0]), ([], []), ([], []), ([2, 3], [2, 3]), ([4], [4]), ([5], [5]), ([1, 6], [1, 6]), ([], []), ([8], [8]), ([], []), ([], []), ([10, 11], [10, 11]), ([12], [12]), ([13], [13]), ([9, 14], [9, 14]), ([], []), ([16], [16]), ([], []), ([], []), ([18, 19], [18, 19]), ([20], [20]), ([21], [21]), ([17, 22], [17, 22]), ([7, 15, 23], [7, 15, 23]), ([24, 0, 1, 2, 3, 4, 5, 6, 7, 8, 9, 10, 11, 12, 13, 14, 15, 16, 17, 18, 19, 20, 21, 22, 23, 24], [24])])
def metrolabref31_Box.B11 : List Nat := [0, 1, 0, 0, 12, 28, 60, 127, 0, 256, 0, 0, 3072, 7168, 15360, 32512, 0, 65536, 0, 0, 786432, 1835008, 3932160, 8323072, 16777215, 33554431]
theorem metrolabref31_Box.tab11 : rtab .any (opsOf Try.f35 11) = metrolabref31_Box.T11 := by kernel_rfl
theorem metrolabref31_Box.bits11 : waitsOk metrolabref31_Box.T11.2 metrolabref31_Box.B11 = true := by kernel_rfl
set_option maxHeartbeats 8000000 in
set_option maxRecDepth 100000 in
theorem metrolabref31_Box.calls (k : Nat) (A0 : Option Addr) (c0 : Nat) (l0 : List (S30)) (r1 : Int) (r2 : Int) (r3 : Int) (r4 : Int) (r5 : Int) (r6 : Int) (r7 : Int) (w : World) (hr0 : Kd.C k30 w A0 l0.length l0) (hc0 : l0.length ≤ c0) (h : metrolabref31_Box.f k l0 = some (r1, r2, r3, r4, r5, r6, r7)) :
    Calls Try.prog 35 #[.slice A0 l0.length c0] w fun e w' => e = .returned (.tuple #[.agg #[.int .i64 r1, .int .i64 r2, .int .i64 r3], .agg #[.int .i64 r4, .int .i64 r5, .int .i64 r6], .int .i64 r7]) ∧ Below w.heap.size w w' := by
  have hu30 := Try.underlying30
  have HR0 := Aside0.mk hr0
  have HC0 := Aside0.mk hc0
  clear hr0 hc0
  have HB := Aside0.mk (Below.refl w.heap.size w)
  have H : ((metrolabref07_CheckSpots.f k l0).bind fun t453 => (if t453 = 0 then (if (l0.length : Int) = 0 then (some (0, 0, 0, 0, 0, 0, 13)) else (if 0 < (l0.length : Int) then (metrolabref31_Box.l0 k l0 0 ((rd_T30 l0 0).f0) ((rd_T30 l0 0).f1) ((rd_T30 l0 0).f2) ((rd_T30 l0 0).f0) ((rd_T30 l0 0).f1) ((rd_T30 l0 0).f2)) else (none))) else (some (0, 0, 0, 0, 0, 0, t453)))) = some (r1, r2, r3, r4, r5, r6, r7) := h
  clear h
  replace H := Option.bind_eq_some_iff.mp H
  obtain ⟨t453, A20, H⟩ := H
  replace H : (if t453 = 0 then (if (l0.length : Int) = 0 then (some (0, 0, 0, 0, 0, 0, 13)) else (if 0 < (l0.length : Int) then (metrolabref31_Box.l0 k l0 0 ((rd_T30 l0 0).f0) ((rd_T30 l0 0).f1) ((rd_T30 l0 0).f2) ((rd_T30 l0 0).f0) ((rd_T30 l0 0).f1) ((rd_T30 l0 0).f2)) else (none))) else (some (0, 0, 0, 0, 0, 0, t453))) = some (r1, r2, r3, r4, r5, r6, r7) := H
  have A2 := Aside0.mk A20
  clear A20
  by_cases c3 : t453 = 0
  · rw [if_pos c3] at H
    have c3b0 : (t453 == 0) = true := beq_iff_eq.mpr c3
    have c3b1 : (t453 != 0) = false := bne_eq_false_iff_eq.mpr c3
    clear c3
    by_cases c4 : (l0.length : Int) = 0
    · rw [if_pos c4] at H
      have c4b0 : ((l0.length : Int) == 0) = true := beq_iff_eq.mpr c4
      have c4b1 : ((l0.length : Int) != 0) = false := bne_eq_false_iff_eq.mpr c4
      clear c4
      simp only [Option.some.injEq, Prod.mk.injEq] at H
      obtain ⟨rfl, rfl, rfl, rfl, rfl, rfl, rfl⟩ := H
      go_enter Try.func35, Try.ntmps35
      go_wp2_with (first | ((with_reducible refine gate_dst (N := 2) rfl ?_); refine box_event ?hg (N := 2) ?hd (cs := #[.int .i64 0, .int .i64 0, .int .i64 0]) (t := 30) ?hr ?_; (case hd => rfl); (case hg => rfl); (case hr => first | (go_simp; done) | (go_simp; rfl)); intro gb451 hg w5 hbox hb; have n0_ := Aside0.mk (below_step (by repeat (first | (with_reducible first | exact HB.out | apply below_alloc | apply pw_below_drewN | apply below_drew1) | exact HB.out)) hb); have n1_ := Aside0.mk (hbox); have n2_ := Aside0.mk ((by rw [hg]; exact (below_size (by repeat (first | (with_reducible first | exact HB.out | apply below_alloc | apply pw_below_drewN | apply below_drew1) | exact HB.out))) : w.heap.size ≤ gb451)); have n3_ := Aside0.mk ((by rw [hg]; exact (below_size (by repeat (first | (with_reducible first | exact HB.out | apply below_alloc | apply pw_below_drewN | apply below_drew1) | exact HB.out))) : w.heap.size ≤ gb451)); clear HB; have HB := n0_; have BK451 := n1_; have GW451 := n2_; have GE451 := n3_; clear n0_ n1_ n2_ n3_; clear hb hbox hg) | ((with_reducible refine gate_dst (N := 3) rfl ?_); refine box_event ?hg (N := 3) ?hd (cs := #[.int .i64 0, .int .i64 0, .int .i64 0]) (t := 30) ?hr ?_; (case hd => rfl); (case hg => rfl); (case hr => first | (go_simp; done) | (go_simp; rfl)); intro gb452 hg w6 hbox hb; have n0_ := Aside0.mk (blk_below (g := gb451) (o := .cells #[.int .i64 0, .int .i64 0, .int .i64 0] 30 (0, 0)) (by (with_reducible repeat (first | refine blk_drewN ?_ _ | refine blk_drew ?_ | refine blk_alloc ?_ _)); exact BK451.out) hb); have n1_ := Aside0.mk (below_step (by repeat (first | (with_reducible first | exact HB.out | apply below_alloc | apply pw_below_drewN | apply below_drew1 | refine below_set ?_ GE451.out) | exact HB.out)) hb); have n2_ := Aside0.mk (hbox); have n3_ := Aside0.mk ((by rw [hg]; exact (below_size (by repeat (first | (with_reducible first | exact HB.out | apply below_alloc | apply pw_below_drewN | apply below_drew1 | refine below_set ?_ GE451.out) | exact HB.out))) : w.heap.size ≤ gb452)); have n4_ := Aside0.mk ((by rw [hg]; exact (below_size (by repeat (first | (with_reducible first | exact HB.out | apply below_alloc | apply pw_below_drewN | apply below_drew1 | refine below_set ?_ GE451.out) | exact HB.out))) : w.heap.size ≤ gb452)); have n5_ := Aside0.mk ((by rw [hg]; exact Nat.ne_of_lt (blk_lt (g := gb451) (o := .cells #[.int .i64 0, .int .i64 0, .int .i64 0] 30 (0, 0)) (by (with_reducible repeat (first | refine blk_drewN ?_ _ | refine blk_drew ?_ | refine blk_alloc ?_ _)); exact BK451.out)) : gb451 ≠ gb452)); have n6_ := Aside0.mk ((by rw [hg]; exact Nat.ne_of_gt (blk_lt (g := gb451) (o := .cells #[.int .i64 0, .int .i64 0, .int .i64 0] 30 (0, 0)) (by (with_reducible repeat (first | refine blk_drewN ?_ _ | refine blk_drew ?_ | refine blk_alloc ?_ _)); exact BK451.out)) : gb452 ≠ gb451)); clear BK451; clear HB; have BK451 := n0_; have HB := n1_; have BK452 := n2_; have GW452 := n3_; have GE452 := n4_; have NB451_452 := n5_; have NB452_451 := n6_; clear n0_ n1_ n2_ n3_ n4_ n5_ n6_; clear hb hbox hg) | ((with_reducible refine gate_callee (f := 39) rfl ?_); refine goesL_ (some 10) rfl rfl Try.func39 (by kernel_rfl) rfl #[.slice A0 l0.length c0] rfl (by (try simp only [List.map_toArray, List.map_cons, List.map_nil]); first | done | rfl | (simp only [List.length_drop, List.length_take]; rfl)) ?_; (with_reducible refine (metrolabref07_CheckSpots.calls k _ _ l0 t453 _ ?side1 ?side2 A2.out).mono ?_); (case side1 => repeat (first | exact (Kd.C_below HR0.out HB.out) | (with_reducible refine Kd.C_alloc ?_ _) | (with_reducible refine Kd.C_drewN ?_ _) | (with_reducible refine Kd.C_drew ?_))); (case side2 => exact HC0.out); rintro e w7 ⟨rfl, hb⟩; refine ⟨_, rfl, ?_⟩; have n0_ := Aside0.mk (blk_below (g := gb451) (o := .cells #[.int .i64 0, .int .i64 0, .int .i64 0] 30 (0, 0)) (by (with_reducible repeat (first | refine blk_drewN ?_ _ | refine blk_drew ?_ | refine blk_alloc ?_ _)); exact BK451.out) hb); have n1_ := Aside0.mk (blk_below (g := gb452) (o := .cells #[.int .i64 0, .int .i64 0, .int .i64 0] 30 (0, 0)) (by (with_reducible repeat (first | refine blk_drewN ?_ _ | refine blk_drew ?_ | refine blk_alloc ?_ _)); exact BK452.out) hb); have n2_ := Aside0.mk (below_step (by repeat (first | (with_reducible first | exact HB.out | apply below_alloc | apply pw_below_drewN | apply below_drew1 | refine below_set ?_ GE451.out | refine below_set ?_ GE452.out) | exact HB.out)) hb); clear BK451; clear BK452; clear HB; have BK451 := n0_; have BK452 := n1_; have HB := n2_; clear n0_ n1_ n2_; (try clear hb); (try clear hb2); (try clear hk); (try clear hi); have hnb8 := NB451_452.out; have hnc8 := NB452_451.out; have hcz9_0 : w7.cell? ⟨gb451, 0, none⟩ = some (.int .i64 0) := (blk_cell BK451.out 0).trans rfl; have hcz9_1 : w7.cell? ⟨gb451, 1, none⟩ = some (.int .i64 0) := (blk_cell BK451.out 1).trans rfl; have hcz9_2 : w7.cell? ⟨gb451, 2, none⟩ = some (.int .i64 0) := (blk_cell BK451.out 2).trans rfl; have hfz9_0 := blk_frozen BK451.out 0; have hfz9_1 := blk_frozen BK451.out 1; have hfz9_2 := blk_frozen BK451.out 2; have hcz10_0 : w7.cell? ⟨gb452, 0, none⟩ = some (.int .i64 0) := (blk_cell BK452.out 0).trans rfl; have hcz10_1 : w7.cell? ⟨gb452, 1, none⟩ = some (.int .i64 0) := (blk_cell BK452.out 1).trans rfl; have hcz10_2 : w7.cell? ⟨gb452, 2, none⟩ = some (.int .i64 0) := (blk_cell BK452.out 2).trans rfl; have hfz10_0 := blk_frozen BK452.out 0; have hfz10_1 := blk_frozen BK452.out 1; have hfz10_2 := blk_frozen BK452.out 2))
      refine bodyPost_ret (results_list (rs := [.cell 2 30, .cell 3 30, .tmp 4]) rfl (by simp) (.cell gb451 30 #[.int .i64 0, .int .i64 0, .int .i64 0] (0, 0) _ rfl (by (with_reducible repeat (first | refine blk_drewN ?_ _ | refine blk_drew ?_ | refine blk_alloc ?_ _)); refine blk_far ?_ NB451_452.out _; (with_reducible repeat (first | refine blk_drewN ?_ _ | refine blk_drew ?_ | refine blk_alloc ?_ _)); refine blk_far ?_ NB451_452.out _; (with_reducible repeat (first | refine blk_drewN ?_ _ | refine blk_drew ?_ | refine blk_alloc ?_ _)); refine blk_far ?_ NB451_452.out _; (with_reducible repeat (first | refine blk_drewN ?_ _ | refine blk_drew ?_ | refine blk_alloc ?_ _)); refine blk_put (cs := #[.int .i64 0, .int .i64 0, .int .i64 0]) ?_ 2 _ rfl; (with_reducible repeat (first | refine blk_drewN ?_ _ | refine blk_drew ?_ | refine blk_alloc ?_ _)); refine blk_put (cs := #[.int .i64 0, .int .i64 0, .int .i64 0]) ?_ 1 _ rfl; (with_reducible repeat (first | refine blk_drewN ?_ _ | refine blk_drew ?_ | refine blk_alloc ?_ _)); refine blk_put (cs := #[.int .i64 0, .int .i64 0, .int .i64 0]) ?_ 0 _ rfl; (with_reducible repeat (first | refine blk_drewN ?_ _ | refine blk_drew ?_ | refine blk_alloc ?_ _)); exact BK451.out) Try.underlying30 rfl (by kernel_rfl) (.cell gb452 30 #[.int .i64 0, .int .i64 0, .int .i64 0] (0, 0) _ rfl (by (with_reducible repeat (first | refine blk_drewN ?_ _ | refine blk_drew ?_ | refine blk_alloc ?_ _)); refine blk_put (cs := #[.int .i64 0, .int .i64 0, .int .i64 0]) ?_ 2 _ rfl; (with_reducible repeat (first | refine blk_drewN ?_ _ | refine blk_drew ?_ | refine blk_alloc ?_ _)); refine blk_put (cs := #[.int .i64 0, .int .i64 0, .int .i64 0]) ?_ 1 _ rfl; (with_reducible repeat (first | refine blk_drewN ?_ _ | refine blk_drew ?_ | refine blk_alloc ?_ _)); refine blk_put (cs := #[.int .i64 0, .int .i64 0, .int .i64 0]) ?_ 0 _ rfl; (with_reducible repeat (first | refine blk_drewN ?_ _ | refine blk_drew ?_ | refine blk_alloc ?_ _)); refine blk_far ?_ NB452_451.out _; (with_reducible repeat (first | refine blk_drewN ?_ _ | refine blk_drew ?_ | refine blk_alloc ?_ _)); refine blk_far ?_ NB452_451.out _; (with_reducible repeat (first | refine blk_drewN ?_ _ | refine blk_drew ?_ | refine blk_alloc ?_ _)); refine blk_far ?_ NB452_451.out _; (with_reducible repeat (first | refine blk_drewN ?_ _ | refine blk_drew ?_ | refine blk_alloc ?_ _)); exact BK452.out) Try.underlying30 rfl (by kernel_rfl) (.tmp .nil)))) rfl ?_
      exact ⟨by first | rfl | (simp [errW_none, errW_some] <;> rfl) | (simp [*, errW_none, errW_some] <;> rfl), by repeat (first | (with_reducible first | exact HB.out | apply below_alloc | apply pw_below_drewN | apply below_drew1 | refine below_set ?_ GE451.out | refine below_set ?_ GE452.out) | exact HB.out)⟩
    · rw [if_neg c4] at H
      have c4b0 : ((l0.length : Int) == 0) = false := beq_eq_false_iff_ne.mpr c4
      have c4b1 : ((l0.length : Int) != 0) = true := bne_iff_ne.mpr c4
      have c4b2 : ¬ (l0 = []) := fun h_ => c4 (by rw [h_]; rfl)
      by_cases c11 : 0 < (l0.length : Int)
      · rw [if_pos c11] at H
        have c11b0 : decide (0 < (l0.length : Int)) = true := decide_eq_true c11
        have c11b1 : decide (0 < l0.length) = true := decide_eq_true (by omega)
        clear c11
        have H' := Aside0.mk H
        clear H
        go_enter Try.func35, Try.ntmps35
        try go_wp2_with (first | ((with_reducible refine gate_dst (N := 2) rfl ?_); refine box_event ?hg (N := 2) ?hd (cs := #[.int .i64 0, .int .i64 0, .int .i64 0]) (t := 30) ?hr ?_; (case hd => rfl); (case hg => rfl); (case hr => first | (go_simp; done) | (go_simp; rfl)); intro gb451 hg w12 hbox hb; have n0_ := Aside0.mk (below_step (by repeat (first | (with_reducible first | exact HB.out | apply below_alloc | apply pw_below_drewN | apply below_drew1) | exact HB.out)) hb); have n1_ := Aside0.mk (hbox); have n2_ := Aside0.mk ((by rw [hg]; exact (below_size (by repeat (first | (with_reducible first | exact HB.out | apply below_alloc | apply pw_below_drewN | apply below_drew1) | exact HB.out))) : w.heap.size ≤ gb451)); have n3_ := Aside0.mk ((by rw [hg]; exact (below_size (by repeat (first | (with_reducible first | exact HB.out | apply below_alloc | apply pw_below_drewN | apply below_drew1) | exact HB.out))) : w.heap.size ≤ gb451)); clear HB; have HB := n0_; have BK451 := n1_; have GW451 := n2_; have GE451 := n3_; clear n0_ n1_ n2_ n3_; clear hb hbox hg) | ((with_reducible refine gate_dst (N := 3) rfl ?_); refine box_event ?hg (N := 3) ?hd (cs := #[.int .i64 0, .int .i64 0, .int .i64 0]) (t := 30) ?hr ?_; (case hd => rfl); (case hg => rfl); (case hr => first | (go_simp; done) | (go_simp; rfl)); intro gb452 hg w13 hbox hb; have n0_ := Aside0.mk (blk_below (g := gb451) (o := .cells #[.int .i64 0, .int .i64 0, .int .i64 0] 30 (0, 0)) (by (with_reducible repeat (first | refine blk_drewN ?_ _ | refine blk_drew ?_ | refine blk_alloc ?_ _)); exact BK451.out) hb); have n1_ := Aside0.mk (below_step (by repeat (first | (with_reducible first | exact HB.out | apply below_alloc | apply pw_below_drewN | apply below_drew1 | refine below_set ?_ GE451.out) | exact HB.out)) hb); have n2_ := Aside0.mk (hbox); have n3_ := Aside0.mk ((by rw [hg]; exact (below_size (by repeat (first | (with_reducible first | exact HB.out | apply below_alloc | apply pw_below_drewN | apply below_drew1 | refine below_set ?_ GE451.out) | exact HB.out))) : w.heap.size ≤ gb452)); have n4_ := Aside0.mk ((by rw [hg]; exact (below_size (by repeat (first | (with_reducible first | exact HB.out | apply below_alloc | apply pw_below_drewN | apply below_drew1 | refine below_set ?_ GE451.out) | exact HB.out))) : w.heap.size ≤ gb452)); have n5_ := Aside0.mk ((by rw [hg]; exact Nat.ne_of_lt (blk_lt (g := gb451) (o := .cells #[.int .i64 0, .int .i64 0, .int .i64 0] 30 (0, 0)) (by (with_reducible repeat (first | refine blk_drewN ?_ _ | refine blk_drew ?_ | refine blk_alloc ?_ _)); exact BK451.out)) : gb451 ≠ gb452)); have n6_ := Aside0.mk ((by rw [hg]; exact Nat.ne_of_gt (blk_lt (g := gb451) (o := .cells #[.int .i64 0, .int .i64 0, .int .i64 0] 30 (0, 0)) (by (with_reducible repeat (first | refine blk_drewN ?_ _ | refine blk_drew ?_ | refine blk_alloc ?_ _)); exact BK451.out)) : gb452 ≠ gb451)); clear BK451; clear HB; have BK451 := n0_; have HB := n1_; have BK452 := n2_; have GW452 := n3_; have GE452 := n4_; have NB451_452 := n5_; have NB452_451 := n6_; clear n0_ n1_ n2_ n3_ n4_ n5_ n6_; clear hb hbox hg) | ((with_reducible refine gate_callee (f := 39) rfl ?_); refine goesL_ (some 10) rfl rfl Try.func39 (by kernel_rfl) rfl #[.slice A0 l0.length c0] rfl (by (try simp only [List.map_toArray, List.map_cons, List.map_nil]); first | done | rfl | (simp only [List.length_drop, List.length_take]; rfl)) ?_; (with_reducible refine (metrolabref07_CheckSpots.calls k _ _ l0 t453 _ ?side1 ?side2 A2.out).mono ?_); (case side1 => repeat (first | exact (Kd.C_below HR0.out HB.out) | (with_reducible refine Kd.C_alloc ?_ _) | (with_reducible refine Kd.C_drewN ?_ _) | (with_reducible refine Kd.C_drew ?_))); (case side2 => exact HC0.out); rintro e w14 ⟨rfl, hb⟩; refine ⟨_, rfl, ?_⟩; have n0_ := Aside0.mk (blk_below (g := gb451) (o := .cells #[.int .i64 0, .int .i64 0, .int .i64 0] 30 (0, 0)) (by (with_reducible repeat (first | refine blk_drewN ?_ _ | refine blk_drew ?_ | refine blk_alloc ?_ _)); exact BK451.out) hb); have n1_ := Aside0.mk (blk_below (g := gb452) (o := .cells #[.int .i64 0, .int .i64 0, .int .i64 0] 30 (0, 0)) (by (with_reducible repeat (first | refine blk_drewN ?_ _ | refine blk_drew ?_ | refine blk_alloc ?_ _)); exact BK452.out) hb); have n2_ := Aside0.mk (below_step (by repeat (first | (with_reducible first | exact HB.out | apply below_alloc | apply pw_below_drewN | apply below_drew1 | refine below_set ?_ GE451.out | refine below_set ?_ GE452.out) | exact HB.out)) hb); clear BK451; clear BK452; clear HB; have BK451 := n0_; have BK452 := n1_; have HB := n2_; clear n0_ n1_ n2_; (try clear hb); (try clear hb2); (try clear hk); (try clear hi)))
        have n0_ := Aside0.mk (blk_drew BK451.out)
        have n1_ := Aside0.mk (blk_drew BK452.out)
        have n2_ := Aside0.mk (below_drew1 HB.out)
        clear BK451
        clear BK452
        clear HB
        have BK451 := n0_
        have BK452 := n1_
        have HB := n2_
        clear n0_ n1_ n2_
        have p454 : 0 ≤ (0 : Int) := (by omega)
        have q454 : 0 < (l0.length : Int) := of_decide_eq_true (by first | (with_reducible assumption) | assumption)
        obtain ⟨ad454, e454, hx454_0, hx454_1, hx454_2⟩ := at_T30 HR0.out 0 p454 q454
        have hw454_2 := hx454_2
        (try rw [show ((0 : Int)).toNat = 0 from rfl] at hw454_2)
        (try rw [show 0 * 3 = 0 from rfl] at hw454_2)
        (try rw [Addr.add_zero'] at hw454_2)
        have hw454_1 := hx454_1
        (try rw [show ((0 : Int)).toNat = 0 from rfl] at hw454_1)
        (try rw [show 0 * 3 = 0 from rfl] at hw454_1)
        (try rw [Addr.add_zero'] at hw454_1)
        have hw454_0 := hx454_0
        (try rw [show ((0 : Int)).toNat = 0 from rfl] at hw454_0)
        (try rw [show 0 * 3 = 0 from rfl] at hw454_0)
        (try rw [Addr.add_zero'] at hw454_0)
        cases e454
        have qi454 : (0 < l0.length) = True := eq_true (by omega)
        (try rw [show ((0 : Int)).toNat = 0 from rfl] at hx454_0)
        (try rw [show 0 * 3 = 0 from rfl] at hx454_0)
        (try rw [Addr.add_zero'] at hx454_0)
        (try rw [show ((0 : Int)).toNat = 0 from rfl] at hx454_1)
        (try rw [show 0 * 3 = 0 from rfl] at hx454_1)
        (try rw [Addr.add_zero'] at hx454_1)
        (try rw [show ((0 : Int)).toNat = 0 from rfl] at hx454_2)
        (try rw [show 0 * 3 = 0 from rfl] at hx454_2)
        (try rw [Addr.add_zero'] at hx454_2)
        replace hx454_0 := (HB.out.cell (World.block_lt_of_cell? w _ hx454_0)).trans hx454_0
        replace hx454_1 := (HB.out.cell (World.block_lt_of_cell? w _ hx454_1)).trans hx454_1
        replace hx454_2 := (HB.out.cell (World.block_lt_of_cell? w _ hx454_2)).trans hx454_2
        replace p454 := eq_true p454
        replace q454 := eq_true q454
        have p455 : 0 ≤ (0 : Int) := (by omega)
        have q455 : 0 < (l0.length : Int) := of_decide_eq_true (by first | (with_reducible assumption) | assumption)
        obtain ⟨ad455, e455, hx455_0, hx455_1, hx455_2⟩ := at_T30 HR0.out 0 p455 q455
        have hw455_2 := hx455_2
        (try rw [show ((0 : Int)).toNat = 0 from rfl] at hw455_2)
        (try rw [show 0 * 3 = 0 from rfl] at hw455_2)
        (try rw [Addr.add_zero'] at hw455_2)
        have hw455_1 := hx455_1
        (try rw [show ((0 : Int)).toNat = 0 from rfl] at hw455_1)
        (try rw [show 0 * 3 = 0 from rfl] at hw455_1)
        (try rw [Addr.add_zero'] at hw455_1)
        have hw455_0 := hx455_0
        (try rw [show ((0 : Int)).toNat = 0 from rfl] at hw455_0)
        (try rw [show 0 * 3 = 0 from rfl] at hw455_0)
        (try rw [Addr.add_zero'] at hw455_0)
        obtain rfl : ad454 = ad455 := (by injection e455)
        have qi455 : (0 < l0.length) = True := eq_true (by omega)
        (try rw [show ((0 : Int)).toNat = 0 from rfl] at hx455_0)
        (try rw [show 0 * 3 = 0 from rfl] at hx455_0)
        (try rw [Addr.add_zero'] at hx455_0)
        (try rw [show ((0 : Int)).toNat = 0 from rfl] at hx455_1)
        (try rw [show 0 * 3 = 0 from rfl] at hx455_1)
        (try rw [Addr.add_zero'] at hx455_1)
        (try rw [show ((0 : Int)).toNat = 0 from rfl] at hx455_2)
        (try rw [show 0 * 3 = 0 from rfl] at hx455_2)
        (try rw [Addr.add_zero'] at hx455_2)
        replace hx455_0 := (HB.out.cell (World.block_lt_of_cell? w _ hx455_0)).trans hx455_0
        replace hx455_1 := (HB.out.cell (World.block_lt_of_cell? w _ hx455_1)).trans hx455_1
        replace hx455_2 := (HB.out.cell (World.block_lt_of_cell? w _ hx455_2)).trans hx455_2
        replace p455 := eq_true p455
        replace q455 := eq_true q455
        refine start_ (n := 10) (S := fun w' => w'.cell? ad454 = some (.int .i64 ((rd_T30 l0 0).f0)) ∧ w'.cell? ⟨ad454.block, ad454.off + 1, none⟩ = some (.int .i64 ((rd_T30 l0 0).f1)) ∧ w'.cell? ⟨ad454.block, ad454.off + 2, none⟩ = some (.int .i64 ((rd_T30 l0 0).f2)) ∧ w'.cell? ad454 = some (.int .i64 ((rd_T30 l0 0).f0)) ∧ w'.cell? ⟨ad454.block, ad454.off + 1, none⟩ = some (.int .i64 ((rd_T30 l0 0).f1)) ∧ w'.cell? ⟨ad454.block, ad454.off + 2, none⟩ = some (.int .i64 ((rd_T30 l0 0).f2))) (ds := []) #[false, false, false, false, false, false, false, false, false, false] (by kernel_rfl) rfl rfl ⟨((HB.out.cell (World.block_lt_of_cell? w _ hw454_0)).trans hw454_0), ((HB.out.cell (World.block_lt_of_cell? w _ hw454_1)).trans hw454_1), ((HB.out.cell (World.block_lt_of_cell? w _ hw454_2)).trans hw454_2), ((HB.out.cell (World.block_lt_of_cell? w _ hw455_0)).trans hw455_0), ((HB.out.cell (World.block_lt_of_cell? w _ hw455_1)).trans hw455_1), ((HB.out.cell (World.block_lt_of_cell? w _ hw455_2)).trans hw455_2)⟩ (fun hHeld => ?_); refine with_tabW metrolabref31_Box.tab6 metrolabref31_Box.bits6 (fun HT_ HW_ => ?_)
        generalize w14.drew = w15 at BK451 BK452 HB hx454_0 hx454_1 hx454_2 hx455_0 hx455_1 hx455_2 hHeld ⊢
        refine pure_ (i := 0) (N := some 21) (v := ?_) (a' := ?_) #[true, false, false, false, false, false, false, false, false, false] rfl rfl (any_of HT_.out (by kernel_rfl)) (fun _ _ _ h => h) (Or.inl ⟨by rfl, ?_⟩) ?_ ?_
        rotate_left
        · intro w'
          go_simp
          with_reducible rfl
        rotate_left
        · simp only [Act.put, List.setIfInBounds_toArray, List.set_cons_zero, List.set_cons_succ, i64_w, i32_w]
          rfl
        refine pure_ (i := 1) (N := some 22) (v := ?_) (a' := ?_) #[true, true, false, false, false, false, false, false, false, false] rfl rfl (any_of HT_.out (by kernel_rfl)) (fun _ _ _ h => h) (Or.inl ⟨by rfl, ?_⟩) ?_ ?_
        rotate_left
        · intro w'
          go_simp
          with_reducible rfl
        rotate_left
        · simp only [Act.put, List.setIfInBounds_toArray, List.set_cons_zero, List.set_cons_succ, i64_w, i32_w]
          rfl
        refine pure_ (i := 3) (N := some 24) (v := ?_) (a' := ?_) #[true, true, false, true, false, false, false, false, false, false] rfl rfl (any_of HT_.out (by kernel_rfl)) (fun _ _ _ h => h) (Or.inl ⟨by rfl, ?_⟩) ?_ ?_
        rotate_left
        · intro w'
          go_simp
          with_reducible rfl
        rotate_left
        · simp only [Act.put, List.setIfInBounds_toArray, List.set_cons_zero, List.set_cons_succ, i64_w, i32_w]
          rfl
        refine pure_ (i := 4) (N := some 25) (v := ?_) (a' := ?_) #[true, true, false, true, true, false, false, false, false, false] rfl rfl (any_of HT_.out (by kernel_rfl)) (fun _ _ _ h => h) (Or.inl ⟨by rfl, ?_⟩) ?_ ?_
        rotate_left
        · intro w'
          go_simp
          with_reducible rfl
        rotate_left
        · simp only [Act.put, List.setIfInBounds_toArray, List.set_cons_zero, List.set_cons_succ, i64_w, i32_w]
          rfl
        refine take_ (i := 2) (N := some 23) (v := ?_) (a' := ?_) #[true, true, true, true, true, false, false, false, false, false] rfl rfl (take_ofW HT_.out HW_.out (by kernel_rfl)) (fun _ _ _ h => h) (Or.inl ⟨by rfl, ?_⟩) hHeld ?_ ?_
        rotate_left
        · rintro w' ⟨s0, s1, s2, s3, s4, s5⟩
          go_simp
          with_reducible rfl
        rotate_left
        · simp only [Act.put, List.setIfInBounds_toArray, List.set_cons_zero, List.set_cons_succ, i64_w, i32_w]
          rfl
        refine take_ (i := 5) (N := some 26) (v := ?_) (a' := ?_) #[true, true, true, true, true, true, false, false, false, false] rfl rfl (take_ofW HT_.out HW_.out (by kernel_rfl)) (fun _ _ _ h => h) (Or.inl ⟨by rfl, ?_⟩) hHeld ?_ ?_
        rotate_left
        · rintro w' ⟨s0, s1, s2, s3, s4, s5⟩
          go_simp
          with_reducible rfl
        rotate_left
        · simp only [Act.put, List.setIfInBounds_toArray, List.set_cons_zero, List.set_cons_succ, i64_w, i32_w]
          rfl
        refine join_ (σ := Nat × Nat) 2 #[true, true, true, true, true, true, true, true, false, false] (fun s_ => [(6, .pointer (some ⟨s_.1, 0, none⟩)), (7, .pointer (some ⟨s_.2, 0, none⟩))]) (fun s_ w' => (w'.cell? ad454 = some (.int .i64 ((rd_T30 l0 0).f0)) ∧ w'.cell? ⟨ad454.block, ad454.off + 1, none⟩ = some (.int .i64 ((rd_T30 l0 0).f1)) ∧ w'.cell? ⟨ad454.block, ad454.off + 2, none⟩ = some (.int .i64 ((rd_T30 l0 0).f2)) ∧ w'.cell? ad454 = some (.int .i64 ((rd_T30 l0 0).f0)) ∧ w'.cell? ⟨ad454.block, ad454.off + 1, none⟩ = some (.int .i64 ((rd_T30 l0 0).f1)) ∧ w'.cell? ⟨ad454.block, ad454.off + 2, none⟩ = some (.int .i64 ((rd_T30 l0 0).f2))) ∧ (w'.heap[gb451]? = some (.cells #[.int .i64 0, .int .i64 0, .int .i64 0] 30 (0, 0))) ∧ (w'.heap[gb452]? = some (.cells #[.int .i64 0, .int .i64 0, .int .i64 0] 30 (0, 0))) ∧ (w'.heap[s_.1]? = some (.cells #[.int .i64 0, .int .i64 0, .int .i64 0] 30 (0, 0))) ∧ (w'.heap[s_.2]? = some (.cells #[.int .i64 0, .int .i64 0, .int .i64 0] 30 (0, 0))) ∧ (w.heap.size ≤ s_.1) ∧ (w.heap.size ≤ s_.1) ∧ (gb451 ≠ s_.1) ∧ (s_.1 ≠ gb451) ∧ (gb452 ≠ s_.1) ∧ (s_.1 ≠ gb452) ∧ (s_.2 ≠ s_.1) ∧ (s_.1 ≠ s_.2) ∧ (w.heap.size ≤ s_.2) ∧ (w.heap.size ≤ s_.2) ∧ (gb451 ≠ s_.2) ∧ (s_.2 ≠ gb451) ∧ (gb452 ≠ s_.2) ∧ (s_.2 ≠ gb452) ∧ (Below w.heap.size w w')) ?_ ?_
        rotate_left
        · intro hCont
          refine two_ (i := 6) (j := 7) (Ni := some 6) (Nj := some 7) #[true, true, true, true, true, true, true, false, false, false] #[true, true, true, true, true, true, false, true, false, false] rfl rfl rfl rfl (two_of HT_.out (by kernel_rfl)) (by decide) (by decide) (fun K hK => ?_) (fun K hK => ?_)
          · skip
            refine box_step ?hg (N := 6) ?hd (cs := #[.int .i64 0, .int .i64 0, .int .i64 0]) (t := 30) ?hr ?_; (case hd => rfl); (case hg => rfl); (case hr => first | (go_simp; done) | (go_simp; rfl))
            intro gb456 hg w16 hbox hb
            have n0_ := Aside0.mk (blk_below (g := gb451) (o := .cells #[.int .i64 0, .int .i64 0, .int .i64 0] 30 (0, 0)) (by (with_reducible repeat (first | refine blk_drewN ?_ _ | refine blk_drew ?_ | refine blk_alloc ?_ _)); exact BK451.out) hb)
            have n1_ := Aside0.mk (blk_below (g := gb452) (o := .cells #[.int .i64 0, .int .i64 0, .int .i64 0] 30 (0, 0)) (by (with_reducible repeat (first | refine blk_drewN ?_ _ | refine blk_drew ?_ | refine blk_alloc ?_ _)); exact BK452.out) hb)
            have n2_ := Aside0.mk (below_step (by repeat (first | (with_reducible first | exact HB.out | apply below_alloc | apply pw_below_drewN | apply below_drew1 | refine below_set ?_ GE451.out | refine below_set ?_ GE452.out) | exact HB.out)) hb)
            have n3_ := Aside0.mk (hbox)
            have n4_ := Aside0.mk ((by rw [hg]; exact (below_size (by repeat (first | (with_reducible first | exact HB.out | apply below_alloc | apply pw_below_drewN | apply below_drew1 | refine below_set ?_ GE451.out | refine below_set ?_ GE452.out) | exact HB.out))) : w.heap.size ≤ gb456))
            have n5_ := Aside0.mk ((by rw [hg]; exact (below_size (by repeat (first | (with_reducible first | exact HB.out | apply below_alloc | apply pw_below_drewN | apply below_drew1 | refine below_set ?_ GE451.out | refine below_set ?_ GE452.out) | exact HB.out))) : w.heap.size ≤ gb456))
            have n6_ := Aside0.mk ((by rw [hg]; exact Nat.ne_of_lt (blk_lt (g := gb451) (o := .cells #[.int .i64 0, .int .i64 0, .int .i64 0] 30 (0, 0)) (by (with_reducible repeat (first | refine blk_drewN ?_ _ | refine blk_drew ?_ | refine blk_alloc ?_ _)); exact BK451.out)) : gb451 ≠ gb456))
            have n7_ := Aside0.mk ((by rw [hg]; exact Nat.ne_of_gt (blk_lt (g := gb451) (o := .cells #[.int .i64 0, .int .i64 0, .int .i64 0] 30 (0, 0)) (by (with_reducible repeat (first | refine blk_drewN ?_ _ | refine blk_drew ?_ | refine blk_alloc ?_ _)); exact BK451.out)) : gb456 ≠ gb451))
            have n8_ := Aside0.mk ((by rw [hg]; exact Nat.ne_of_lt (blk_lt (g := gb452) (o := .cells #[.int .i64 0, .int .i64 0, .int .i64 0] 30 (0, 0)) (by (with_reducible repeat (first | refine blk_drewN ?_ _ | refine blk_drew ?_ | refine blk_alloc ?_ _)); exact BK452.out)) : gb452 ≠ gb456))
            have n9_ := Aside0.mk ((by rw [hg]; exact Nat.ne_of_gt (blk_lt (g := gb452) (o := .cells #[.int .i64 0, .int .i64 0, .int .i64 0] 30 (0, 0)) (by (with_reducible repeat (first | refine blk_drewN ?_ _ | refine blk_drew ?_ | refine blk_alloc ?_ _)); exact BK452.out)) : gb456 ≠ gb452))
            clear BK451
            clear BK452
            clear HB
            have BK451 := n0_
            have BK452 := n1_
            have HB := n2_
            have BK456 := n3_
            have GW456 := n4_
            have GE456 := n5_
            have NB451_456 := n6_
            have NB456_451 := n7_
            have NB452_456 := n8_
            have NB456_452 := n9_
            clear n0_ n1_ n2_ n3_ n4_ n5_ n6_ n7_ n8_ n9_
            clear hb hbox hg
            refine hK.out _ _ ⟨((HB.out.cell (World.block_lt_of_cell? w _ hw454_0)).trans hw454_0), ((HB.out.cell (World.block_lt_of_cell? w _ hw454_1)).trans hw454_1), ((HB.out.cell (World.block_lt_of_cell? w _ hw454_2)).trans hw454_2), ((HB.out.cell (World.block_lt_of_cell? w _ hw455_0)).trans hw455_0), ((HB.out.cell (World.block_lt_of_cell? w _ hw455_1)).trans hw455_1), ((HB.out.cell (World.block_lt_of_cell? w _ hw455_2)).trans hw455_2)⟩ (fun hHeld => ?_)
            clear hK K
            refine norm_ (a' := ?_) ?_ ?_
            rotate_left
            · show Act.put _ (some 6) _ = _
              simp only [Act.put, List.setIfInBounds_toArray, List.set_cons_zero, List.set_cons_succ, i64_w, i32_w]
              rfl
            refine one_ (i := 7) (N := some 7) #[true, true, true, true, true, true, true, true, false, false] rfl rfl (one_of HT_.out (by kernel_rfl)) (by decide) (fun K hK => ?_)
            refine box_step ?hg (N := 7) ?hd (cs := #[.int .i64 0, .int .i64 0, .int .i64 0]) (t := 30) ?hr ?_; (case hd => rfl); (case hg => rfl); (case hr => first | (go_simp; done) | (go_simp; rfl))
            intro gb457 hg w17 hbox hb
            have n0_ := Aside0.mk (blk_below (g := gb451) (o := .cells #[.int .i64 0, .int .i64 0, .int .i64 0] 30 (0, 0)) (by (with_reducible repeat (first | refine blk_drewN ?_ _ | refine blk_drew ?_ | refine blk_alloc ?_ _)); exact BK451.out) hb)
            have n1_ := Aside0.mk (blk_below (g := gb452) (o := .cells #[.int .i64 0, .int .i64 0, .int .i64 0] 30 (0, 0)) (by (with_reducible repeat (first | refine blk_drewN ?_ _ | refine blk_drew ?_ | refine blk_alloc ?_ _)); exact BK452.out) hb)
            have n2_ := Aside0.mk (blk_below (g := gb456) (o := .cells #[.int .i64 0, .int .i64 0, .int .i64 0] 30 (0, 0)) (by (with_reducible repeat (first | refine blk_drewN ?_ _ | refine blk_drew ?_ | refine blk_alloc ?_ _)); exact BK456.out) hb)
            have n3_ := Aside0.mk (below_step (by repeat (first | (with_reducible first | exact HB.out | apply below_alloc | apply pw_below_drewN | apply below_drew1 | refine below_set ?_ GE451.out | refine below_set ?_ GE452.out | refine below_set ?_ GE456.out) | exact HB.out)) hb)
            have n4_ := Aside0.mk (hbox)
            have n5_ := Aside0.mk ((by rw [hg]; exact (below_size (by repeat (first | (with_reducible first | exact HB.out | apply below_alloc | apply pw_below_drewN | apply below_drew1 | refine below_set ?_ GE451.out | refine below_set ?_ GE452.out | refine below_set ?_ GE456.out) | exact HB.out))) : w.heap.size ≤ gb457))
            have n6_ := Aside0.mk ((by rw [hg]; exact (below_size (by repeat (first | (with_reducible first | exact HB.out | apply below_alloc | apply pw_below_drewN | apply below_drew1 | refine below_set ?_ GE451.out | refine below_set ?_ GE452.out | refine below_set ?_ GE456.out) | exact HB.out))) : w.heap.size ≤ gb457))
            have n7_ := Aside0.mk ((by rw [hg]; exact Nat.ne_of_lt (blk_lt (g := gb451) (o := .cells #[.int .i64 0, .int .i64 0, .int .i64 0] 30 (0, 0)) (by (with_reducible repeat (first | refine blk_drewN ?_ _ | refine blk_drew ?_ | refine blk_alloc ?_ _)); exact BK451.out)) : gb451 ≠ gb457))
            have n8_ := Aside0.mk ((by rw [hg]; exact Nat.ne_of_gt (blk_lt (g := gb451) (o := .cells #[.int .i64 0, .int .i64 0, .int .i64 0] 30 (0, 0)) (by (with_reducible repeat (first | refine blk_drewN ?_ _ | refine blk_drew ?_ | refine blk_alloc ?_ _)); exact BK451.out)) : gb457 ≠ gb451))
            have n9_ := Aside0.mk ((by rw [hg]; exact Nat.ne_of_lt (blk_lt (g := gb452) (o := .cells #[.int .i64 0, .int .i64 0, .int .i64 0] 30 (0, 0)) (by (with_reducible repeat (first | refine blk_drewN ?_ _ | refine blk_drew ?_ | refine blk_alloc ?_ _)); exact BK452.out)) : gb452 ≠ gb457))
            have n10_ := Aside0.mk ((by rw [hg]; exact Nat.ne_of_gt (blk_lt (g := gb452) (o := .cells #[.int .i64 0, .int .i64 0, .int .i64 0] 30 (0, 0)) (by (with_reducible repeat (first | refine blk_drewN ?_ _ | refine blk_drew ?_ | refine blk_alloc ?_ _)); exact BK452.out)) : gb457 ≠ gb452))
            have n11_ := Aside0.mk ((by rw [hg]; exact Nat.ne_of_lt (blk_lt (g := gb456) (o := .cells #[.int .i64 0, .int .i64 0, .int .i64 0] 30 (0, 0)) (by (with_reducible repeat (first | refine blk_drewN ?_ _ | refine blk_drew ?_ | refine blk_alloc ?_ _)); exact BK456.out)) : gb456 ≠ gb457))
            have n12_ := Aside0.mk ((by rw [hg]; exact Nat.ne_of_gt (blk_lt (g := gb456) (o := .cells #[.int .i64 0, .int .i64 0, .int .i64 0] 30 (0, 0)) (by (with_reducible repeat (first | refine blk_drewN ?_ _ | refine blk_drew ?_ | refine blk_alloc ?_ _)); exact BK456.out)) : gb457 ≠ gb456))
            clear BK451
            clear BK452
            clear BK456
            clear HB
            have BK451 := n0_
            have BK452 := n1_
            have BK456 := n2_
            have HB := n3_
            have BK457 := n4_
            have GW457 := n5_
            have GE457 := n6_
            have NB451_457 := n7_
            have NB457_451 := n8_
            have NB452_457 := n9_
            have NB457_452 := n10_
            have NB456_457 := n11_
            have NB457_456 := n12_
            clear n0_ n1_ n2_ n3_ n4_ n5_ n6_ n7_ n8_ n9_ n10_ n11_ n12_
            clear hb hbox hg
            refine hK.out _ _ ⟨((HB.out.cell (World.block_lt_of_cell? w _ hw454_0)).trans hw454_0), ((HB.out.cell (World.block_lt_of_cell? w _ hw454_1)).trans hw454_1), ((HB.out.cell (World.block_lt_of_cell? w _ hw454_2)).trans hw454_2), ((HB.out.cell (World.block_lt_of_cell? w _ hw455_0)).trans hw455_0), ((HB.out.cell (World.block_lt_of_cell? w _ hw455_1)).trans hw455_1), ((HB.out.cell (World.block_lt_of_cell? w _ hw455_2)).trans hw455_2)⟩ (fun hHeld => ?_)
            clear hK K
            refine norm_ (a' := ?_) ?_ ?_
            rotate_left
            · show Act.put _ (some 7) _ = _
              simp only [Act.put, List.setIfInBounds_toArray, List.set_cons_zero, List.set_cons_succ, i64_w, i32_w]
              rfl
            exact norm_ (by simp only [putAll, Act.put, List.setIfInBounds_toArray, List.set_cons_zero, List.set_cons_succ]) (hCont (gb456, gb457) _ ⟨hHeld, (by (with_reducible repeat (first | refine blk_drewN ?_ _ | refine blk_drew ?_ | refine blk_alloc ?_ _)); exact BK451.out), (by (with_reducible repeat (first | refine blk_drewN ?_ _ | refine blk_drew ?_ | refine blk_alloc ?_ _)); exact BK452.out), (by (with_reducible repeat (first | refine blk_drewN ?_ _ | refine blk_drew ?_ | refine blk_alloc ?_ _)); exact BK456.out), (by (with_reducible repeat (first | refine blk_drewN ?_ _ | refine blk_drew ?_ | refine blk_alloc ?_ _)); exact BK457.out), GW456.out, GE456.out, NB451_456.out, NB456_451.out, NB452_456.out, NB456_452.out, NB457_456.out, NB456_457.out, GW457.out, GE457.out, NB451_457.out, NB457_451.out, NB452_457.out, NB457_452.out, (by repeat (first | (with_reducible first | exact HB.out | apply below_alloc | apply pw_below_drewN | apply below_drew1 | refine below_set ?_ GE451.out | refine below_set ?_ GE452.out | refine below_set ?_ GE456.out | refine below_set ?_ GE457.out) | exact HB.out))⟩)
          · skip
            refine box_step ?hg (N := 7) ?hd (cs := #[.int .i64 0, .int .i64 0, .int .i64 0]) (t := 30) ?hr ?_; (case hd => rfl); (case hg => rfl); (case hr => first | (go_simp; done) | (go_simp; rfl))
            intro gb457 hg w16 hbox hb
            have n0_ := Aside0.mk (blk_below (g := gb451) (o := .cells #[.int .i64 0, .int .i64 0, .int .i64 0] 30 (0, 0)) (by (with_reducible repeat (first | refine blk_drewN ?_ _ | refine blk_drew ?_ | refine blk_alloc ?_ _)); exact BK451.out) hb)
            have n1_ := Aside0.mk (blk_below (g := gb452) (o := .cells #[.int .i64 0, .int .i64 0, .int .i64 0] 30 (0, 0)) (by (with_reducible repeat (first | refine blk_drewN ?_ _ | refine blk_drew ?_ | refine blk_alloc ?_ _)); exact BK452.out) hb)
            have n2_ := Aside0.mk (below_step (by repeat (first | (with_reducible first | exact HB.out | apply below_alloc | apply pw_below_drewN | apply below_drew1 | refine below_set ?_ GE451.out | refine below_set ?_ GE452.out) | exact HB.out)) hb)
            have n3_ := Aside0.mk (hbox)
            have n4_ := Aside0.mk ((by rw [hg]; exact (below_size (by repeat (first | (with_reducible first | exact HB.out | apply below_alloc | apply pw_below_drewN | apply below_drew1 | refine below_set ?_ GE451.out | refine below_set ?_ GE452.out) | exact HB.out))) : w.heap.size ≤ gb457))
            have n5_ := Aside0.mk ((by rw [hg]; exact (below_size (by repeat (first | (with_reducible first | exact HB.out | apply below_alloc | apply pw_below_drewN | apply below_drew1 | refine below_set ?_ GE451.out | refine below_set ?_ GE452.out) | exact HB.out))) : w.heap.size ≤ gb457))
            have n6_ := Aside0.mk ((by rw [hg]; exact Nat.ne_of_lt (blk_lt (g := gb451) (o := .cells #[.int .i64 0, .int .i64 0, .int .i64 0] 30 (0, 0)) (by (with_reducible repeat (first | refine blk_drewN ?_ _ | refine blk_drew ?_ | refine blk_alloc ?_ _)); exact BK451.out)) : gb451 ≠ gb457))
            have n7_ := Aside0.mk ((by rw [hg]; exact Nat.ne_of_gt (blk_lt (g := gb451) (o := .cells #[.int .i64 0, .int .i64 0, .int .i64 0] 30 (0, 0)) (by (with_reducible repeat (first | refine blk_drewN ?_ _ | refine blk_drew ?_ | refine blk_alloc ?_ _)); exact BK451.out)) : gb457 ≠ gb451))
            have n8_ := Aside0.mk ((by rw [hg]; exact Nat.ne_of_lt (blk_lt (g := gb452) (o := .cells #[.int .i64 0, .int .i64 0, .int .i64 0] 30 (0, 0)) (by (with_reducible repeat (first | refine blk_drewN ?_ _ | refine blk_drew ?_ | refine blk_alloc ?_ _)); exact BK452.out)) : gb452 ≠ gb457))
            have n9_ := Aside0.mk ((by rw [hg]; exact Nat.ne_of_gt (blk_lt (g := gb452) (o := .cells #[.int .i64 0, .int .i64 0, .int .i64 0] 30 (0, 0)) (by (with_reducible repeat (first | refine blk_drewN ?_ _ | refine blk_drew ?_ | refine blk_alloc ?_ _)); exact BK452.out)) : gb457 ≠ gb452))
            clear BK451
            clear BK452
            clear HB
            have BK451 := n0_
            have BK452 := n1_
            have HB := n2_
            have BK457 := n3_
            have GW457 := n4_
            have GE457 := n5_
            have NB451_457 := n6_
            have NB457_451 := n7_
            have NB452_457 := n8_
            have NB457_452 := n9_
            clear n0_ n1_ n2_ n3_ n4_ n5_ n6_ n7_ n8_ n9_
            clear hb hbox hg
            refine hK.out _ _ ⟨((HB.out.cell (World.block_lt_of_cell? w _ hw454_0)).trans hw454_0), ((HB.out.cell (World.block_lt_of_cell? w _ hw454_1)).trans hw454_1), ((HB.out.cell (World.block_lt_of_cell? w _ hw454_2)).trans hw454_2), ((HB.out.cell (World.block_lt_of_cell? w _ hw455_0)).trans hw455_0), ((HB.out.cell (World.block_lt_of_cell? w _ hw455_1)).trans hw455_1), ((HB.out.cell (World.block_lt_of_cell? w _ hw455_2)).trans hw455_2)⟩ (fun hHeld => ?_)
            clear hK K
            refine norm_ (a' := ?_) ?_ ?_
            rotate_left
            · show Act.put _ (some 7) _ = _
              simp only [Act.put, List.setIfInBounds_toArray, List.set_cons_zero, List.set_cons_succ, i64_w, i32_w]
              rfl
            refine one_ (i := 6) (N := some 6) #[true, true, true, true, true, true, true, true, false, false] rfl rfl (one_of HT_.out (by kernel_rfl)) (by decide) (fun K hK => ?_)
            refine box_step ?hg (N := 6) ?hd (cs := #[.int .i64 0, .int .i64 0, .int .i64 0]) (t := 30) ?hr ?_; (case hd => rfl); (case hg => rfl); (case hr => first | (go_simp; done) | (go_simp; rfl))
            intro gb456 hg w17 hbox hb
            have n0_ := Aside0.mk (blk_below (g := gb451) (o := .cells #[.int .i64 0, .int .i64 0, .int .i64 0] 30 (0, 0)) (by (with_reducible repeat (first | refine blk_drewN ?_ _ | refine blk_drew ?_ | refine blk_alloc ?_ _)); exact BK451.out) hb)
            have n1_ := Aside0.mk (blk_below (g := gb452) (o := .cells #[.int .i64 0, .int .i64 0, .int .i64 0] 30 (0, 0)) (by (with_reducible repeat (first | refine blk_drewN ?_ _ | refine blk_drew ?_ | refine blk_alloc ?_ _)); exact BK452.out) hb)
            have n2_ := Aside0.mk (blk_below (g := gb457) (o := .cells #[.int .i64 0, .int .i64 0, .int .i64 0] 30 (0, 0)) (by (with_reducible repeat (first | refine blk_drewN ?_ _ | refine blk_drew ?_ | refine blk_alloc ?_ _)); exact BK457.out) hb)
            have n3_ := Aside0.mk (below_step (by repeat (first | (with_reducible first | exact HB.out | apply below_alloc | apply pw_below_drewN | apply below_drew1 | refine below_set ?_ GE451.out | refine below_set ?_ GE452.out | refine below_set ?_ GE457.out) | exact HB.out)) hb)
            have n4_ := Aside0.mk (hbox)
            have n5_ := Aside0.mk ((by rw [hg]; exact (below_size (by repeat (first | (with_reducible first | exact HB.out | apply below_alloc | apply pw_below_drewN | apply below_drew1 | refine below_set ?_ GE451.out | refine below_set ?_ GE452.out | refine below_set ?_ GE457.out) | exact HB.out))) : w.heap.size ≤ gb456))
            have n6_ := Aside0.mk ((by rw [hg]; exact (below_size (by repeat (first | (with_reducible first | exact HB.out | apply below_alloc | apply pw_below_drewN | apply below_drew1 | refine below_set ?_ GE451.out | refine below_set ?_ GE452.out | refine below_set ?_ GE457.out) | exact HB.out))) : w.heap.size ≤ gb456))
            have n7_ := Aside0.mk ((by rw [hg]; exact Nat.ne_of_lt (blk_lt (g := gb451) (o := .cells #[.int .i64 0, .int .i64 0, .int .i64 0] 30 (0, 0)) (by (with_reducible repeat (first | refine blk_drewN ?_ _ | refine blk_drew ?_ | refine blk_alloc ?_ _)); exact BK451.out)) : gb451 ≠ gb456))
            have n8_ := Aside0.mk ((by rw [hg]; exact Nat.ne_of_gt (blk_lt (g := gb451) (o := .cells #[.int .i64 0, .int .i64 0, .int .i64 0] 30 (0, 0)) (by (with_reducible repeat (first | refine blk_drewN ?_ _ | refine blk_drew ?_ | refine blk_alloc ?_ _)); exact BK451.out)) : gb456 ≠ gb451))
            have n9_ := Aside0.mk ((by rw [hg]; exact Nat.ne_of_lt (blk_lt (g := gb452) (o := .cells #[.int .i64 0, .int .i64 0, .int .i64 0] 30 (0, 0)) (by (with_reducible repeat (first | refine blk_drewN ?_ _ | refine blk_drew ?_ | refine blk_alloc ?_ _)); exact BK452.out)) : gb452 ≠ gb456))
            have n10_ := Aside0.mk ((by rw [hg]; exact Nat.ne_of_gt (blk_lt (g := gb452) (o := .cells #[.int .i64 0, .int .i64 0, .int .i64 0] 30 (0, 0)) (by (with_reducible repeat (first | refine blk_drewN ?_ _ | refine blk_drew ?_ | refine blk_alloc ?_ _)); exact BK452.out)) : gb456 ≠ gb452))
            have n11_ := Aside0.mk ((by rw [hg]; exact Nat.ne_of_lt (blk_lt (g := gb457) (o := .cells #[.int .i64 0, .int .i64 0, .int .i64 0] 30 (0, 0)) (by (with_reducible repeat (first | refine blk_drewN ?_ _ | refine blk_drew ?_ | refine blk_alloc ?_ _)); exact BK457.out)) : gb457 ≠ gb456))
            have n12_ := Aside0.mk ((by rw [hg]; exact Nat.ne_of_gt (blk_lt (g := gb457) (o := .cells #[.int .i64 0, .int .i64 0, .int .i64 0] 30 (0, 0)) (by (with_reducible repeat (first | refine blk_drewN ?_ _ | refine blk_drew ?_ | refine blk_alloc ?_ _)); exact BK457.out)) : gb456 ≠ gb457))
            clear BK451
            clear BK452
            clear BK457
            clear HB
            have BK451 := n0_
            have BK452 := n1_
            have BK457 := n2_
            have HB := n3_
            have BK456 := n4_
            have GW456 := n5_
            have GE456 := n6_
            have NB451_456 := n7_
            have NB456_451 := n8_
            have NB452_456 := n9_
            have NB456_452 := n10_
            have NB457_456 := n11_
            have NB456_457 := n12_
            clear n0_ n1_ n2_ n3_ n4_ n5_ n6_ n7_ n8_ n9_ n10_ n11_ n12_
            clear hb hbox hg
            refine hK.out _ _ ⟨((HB.out.cell (World.block_lt_of_cell? w _ hw454_0)).trans hw454_0), ((HB.out.cell (World.block_lt_of_cell? w _ hw454_1)).trans hw454_1), ((HB.out.cell (World.block_lt_of_cell? w _ hw454_2)).trans hw454_2), ((HB.out.cell (World.block_lt_of_cell? w _ hw455_0)).trans hw455_0), ((HB.out.cell (World.block_lt_of_cell? w _ hw455_1)).trans hw455_1), ((HB.out.cell (World.block_lt_of_cell? w _ hw455_2)).trans hw455_2)⟩ (fun hHeld => ?_)
            clear hK K
            refine norm_ (a' := ?_) ?_ ?_
            rotate_left
            · show Act.put _ (some 6) _ = _
              simp only [Act.put, List.setIfInBounds_toArray, List.set_cons_zero, List.set_cons_succ, i64_w, i32_w]
              rfl
            exact norm_ (by simp only [putAll, Act.put, List.setIfInBounds_toArray, List.set_cons_zero, List.set_cons_succ]) (hCont (gb456, gb457) _ ⟨hHeld, (by (with_reducible repeat (first | refine blk_drewN ?_ _ | refine blk_drew ?_ | refine blk_alloc ?_ _)); exact BK451.out), (by (with_reducible repeat (first | refine blk_drewN ?_ _ | refine blk_drew ?_ | refine blk_alloc ?_ _)); exact BK452.out), (by (with_reducible repeat (first | refine blk_drewN ?_ _ | refine blk_drew ?_ | refine blk_alloc ?_ _)); exact BK456.out), (by (with_reducible repeat (first | refine blk_drewN ?_ _ | refine blk_drew ?_ | refine blk_alloc ?_ _)); exact BK457.out), GW456.out, GE456.out, NB451_456.out, NB456_451.out, NB452_456.out, NB456_452.out, NB457_456.out, NB456_457.out, GW457.out, GE457.out, NB451_457.out, NB457_451.out, NB452_457.out, NB457_452.out, (by repeat (first | (with_reducible first | exact HB.out | apply below_alloc | apply pw_below_drewN | apply below_drew1 | refine below_set ?_ GE451.out | refine below_set ?_ GE452.out | refine below_set ?_ GE457.out | refine below_set ?_ GE456.out) | exact HB.out))⟩)
        rintro ⟨gb456, gb457⟩ w18 ⟨hS_, h0_, h1_, h2_, h3_, h4_, h5_, h6_, h7_, h8_, h9_, h10_, h11_, h12_, h13_, h14_, h15_, h16_, h17_, h18_⟩
        have n0_ : Aside0 (w18.heap[gb451]? = some (.cells #[.int .i64 0, .int .i64 0, .int .i64 0] 30 (0, 0))) := ⟨h0_⟩
        have n1_ : Aside0 (w18.heap[gb452]? = some (.cells #[.int .i64 0, .int .i64 0, .int .i64 0] 30 (0, 0))) := ⟨h1_⟩
        have n2_ : Aside0 (w18.heap[gb456]? = some (.cells #[.int .i64 0, .int .i64 0, .int .i64 0] 30 (0, 0))) := ⟨h2_⟩
        have n3_ : Aside0 (w18.heap[gb457]? = some (.cells #[.int .i64 0, .int .i64 0, .int .i64 0] 30 (0, 0))) := ⟨h3_⟩
        have n4_ : Aside0 (w.heap.size ≤ gb456) := ⟨h4_⟩
        have n5_ : Aside0 (w.heap.size ≤ gb456) := ⟨h5_⟩
        have n6_ : Aside0 (gb451 ≠ gb456) := ⟨h6_⟩
        have n7_ : Aside0 (gb456 ≠ gb451) := ⟨h7_⟩
        have n8_ : Aside0 (gb452 ≠ gb456) := ⟨h8_⟩
        have n9_ : Aside0 (gb456 ≠ gb452) := ⟨h9_⟩
        have n10_ : Aside0 (gb457 ≠ gb456) := ⟨h10_⟩
        have n11_ : Aside0 (gb456 ≠ gb457) := ⟨h11_⟩
        have n12_ : Aside0 (w.heap.size ≤ gb457) := ⟨h12_⟩
        have n13_ : Aside0 (w.heap.size ≤ gb457) := ⟨h13_⟩
        have n14_ : Aside0 (gb451 ≠ gb457) := ⟨h14_⟩
        have n15_ : Aside0 (gb457 ≠ gb451) := ⟨h15_⟩
        have n16_ : Aside0 (gb452 ≠ gb457) := ⟨h16_⟩
        have n17_ : Aside0 (gb457 ≠ gb452) := ⟨h17_⟩
        have n18_ : Aside0 (Below w.heap.size w w18) := ⟨h18_⟩
        clear BK451
        clear BK452
        clear HB
        clear h0_ h1_ h2_ h3_ h4_ h5_ h6_ h7_ h8_ h9_ h10_ h11_ h12_ h13_ h14_ h15_ h16_ h17_ h18_
        have BK451 := n0_
        have BK452 := n1_
        have BK456 := n2_
        have BK457 := n3_
        have GW456 := n4_
        have GE456 := n5_
        have NB451_456 := n6_
        have NB456_451 := n7_
        have NB452_456 := n8_
        have NB456_452 := n9_
        have NB457_456 := n10_
        have NB456_457 := n11_
        have GW457 := n12_
        have GE457 := n13_
        have NB451_457 := n14_
        have NB457_451 := n15_
        have NB452_457 := n16_
        have NB457_452 := n17_
        have HB := n18_
        clear n0_ n1_ n2_ n3_ n4_ n5_ n6_ n7_ n8_ n9_ n10_ n11_ n12_ n13_ n14_ n15_ n16_ n17_ n18_
        have hHeld : w18.cell? ad454 = some (.int .i64 ((rd_T30 l0 0).f0)) ∧ w18.cell? ⟨ad454.block, ad454.off + 1, none⟩ = some (.int .i64 ((rd_T30 l0 0).f1)) ∧ w18.cell? ⟨ad454.block, ad454.off + 2, none⟩ = some (.int .i64 ((rd_T30 l0 0).f2)) ∧ w18.cell? ad454 = some (.int .i64 ((rd_T30 l0 0).f0)) ∧ w18.cell? ⟨ad454.block, ad454.off + 1, none⟩ = some (.int .i64 ((rd_T30 l0 0).f1)) ∧ w18.cell? ⟨ad454.block, ad454.off + 2, none⟩ = some (.int .i64 ((rd_T30 l0 0).f2)) := hS_
        refine norm_ (a' := ?_) ?_ ?_
        rotate_left
        · simp only [putAll, Act.put, List.setIfInBounds_toArray, List.set_cons_zero, List.set_cons_succ]
          rfl
        refine one_ (i := 8) (N := none) #[true, true, true, true, true, true, true, true, true, false] rfl rfl (one_of HT_.out (by kernel_rfl)) (by decide) (fun K hK => ?_)
        have hs19 : w18.cell? ⟨gb456, 0, none⟩ = some (.int .i64 0) := (blk_cell BK456.out 0).trans rfl
        have hfs19 := blk_frozen BK456.out 0
        have hns19_0 := NB451_456.out
        have hns19_1 := NB452_456.out
        have hns19_3 := NB457_456.out
        have hms19_0 := NB456_451.out
        have hms19_1 := NB456_452.out
        have hms19_3 := NB456_457.out
        have hs20 : w18.cell? ⟨gb456, 1, none⟩ = some (.int .i64 0) := (blk_cell BK456.out 1).trans rfl
        have hfs20 := blk_frozen BK456.out 1
        have hns20_0 := NB451_456.out
        have hns20_1 := NB452_456.out
        have hns20_3 := NB457_456.out
        have hms20_0 := NB456_451.out
        have hms20_1 := NB456_452.out
        have hms20_3 := NB456_457.out
        have hs21 : w18.cell? ⟨gb456, 2, none⟩ = some (.int .i64 0) := (blk_cell BK456.out 2).trans rfl
        have hfs21 := blk_frozen BK456.out 2
        have hns21_0 := NB451_456.out
        have hns21_1 := NB452_456.out
        have hns21_3 := NB457_456.out
        have hms21_0 := NB456_451.out
        have hms21_1 := NB456_452.out
        have hms21_3 := NB456_457.out
        refine skip_ (w1 := ?_) (by rfl) rfl ?_ ?_
        rotate_left
        · go_simp
          rfl
        refine hK.out _ _ ⟨((cell_far (p := ⟨gb456, _, none⟩) (by first | exact Nat.ne_of_lt (Nat.lt_of_lt_of_le (by have := World.block_lt_of_cell? _ _ hw454_0; first | rwa [add_block] at this | exact this) GW456.out) | (rw [add_block]; exact Nat.ne_of_lt (Nat.lt_of_lt_of_le (by have := World.block_lt_of_cell? _ _ hw454_0; first | rwa [add_block] at this | exact this) GW456.out)) | (show (Addr.add _ _).block ≠ _; rw [add_block]; exact Nat.ne_of_lt (Nat.lt_of_lt_of_le (by have := World.block_lt_of_cell? _ _ hw454_0; first | rwa [add_block] at this | exact this) GW456.out)) | (dsimp only; exact Nat.ne_of_lt (Nat.lt_of_lt_of_le (by have := World.block_lt_of_cell? _ _ hw454_0; first | rwa [add_block] at this | exact this) GW456.out))) _).trans (((cell_far (p := ⟨gb456, _, none⟩) (by first | exact Nat.ne_of_lt (Nat.lt_of_lt_of_le (by have := World.block_lt_of_cell? _ _ hw454_0; first | rwa [add_block] at this | exact this) GW456.out) | (rw [add_block]; exact Nat.ne_of_lt (Nat.lt_of_lt_of_le (by have := World.block_lt_of_cell? _ _ hw454_0; first | rwa [add_block] at this | exact this) GW456.out)) | (show (Addr.add _ _).block ≠ _; rw [add_block]; exact Nat.ne_of_lt (Nat.lt_of_lt_of_le (by have := World.block_lt_of_cell? _ _ hw454_0; first | rwa [add_block] at this | exact this) GW456.out)) | (dsimp only; exact Nat.ne_of_lt (Nat.lt_of_lt_of_le (by have := World.block_lt_of_cell? _ _ hw454_0; first | rwa [add_block] at this | exact this) GW456.out))) _).trans (((cell_far (p := ⟨gb456, _, none⟩) (by first | exact Nat.ne_of_lt (Nat.lt_of_lt_of_le (by have := World.block_lt_of_cell? _ _ hw454_0; first | rwa [add_block] at this | exact this) GW456.out) | (rw [add_block]; exact Nat.ne_of_lt (Nat.lt_of_lt_of_le (by have := World.block_lt_of_cell? _ _ hw454_0; first | rwa [add_block] at this | exact this) GW456.out)) | (show (Addr.add _ _).block ≠ _; rw [add_block]; exact Nat.ne_of_lt (Nat.lt_of_lt_of_le (by have := World.block_lt_of_cell? _ _ hw454_0; first | rwa [add_block] at this | exact this) GW456.out)) | (dsimp only; exact Nat.ne_of_lt (Nat.lt_of_lt_of_le (by have := World.block_lt_of_cell? _ _ hw454_0; first | rwa [add_block] at this | exact this) GW456.out))) _).trans (hHeld.1)))))), ((cell_far (p := ⟨gb456, _, none⟩) (by first | exact Nat.ne_of_lt (Nat.lt_of_lt_of_le (by have := World.block_lt_of_cell? _ _ hw454_1; first | rwa [add_block] at this | exact this) GW456.out) | (rw [add_block]; exact Nat.ne_of_lt (Nat.lt_of_lt_of_le (by have := World.block_lt_of_cell? _ _ hw454_1; first | rwa [add_block] at this | exact this) GW456.out)) | (show (Addr.add _ _).block ≠ _; rw [add_block]; exact Nat.ne_of_lt (Nat.lt_of_lt_of_le (by have := World.block_lt_of_cell? _ _ hw454_1; first | rwa [add_block] at this | exact this) GW456.out)) | (dsimp only; exact Nat.ne_of_lt (Nat.lt_of_lt_of_le (by have := World.block_lt_of_cell? _ _ hw454_1; first | rwa [add_block] at this | exact this) GW456.out))) _).trans (((cell_far (p := ⟨gb456, _, none⟩) (by first | exact Nat.ne_of_lt (Nat.lt_of_lt_of_le (by have := World.block_lt_of_cell? _ _ hw454_1; first | rwa [add_block] at this | exact this) GW456.out) | (rw [add_block]; exact Nat.ne_of_lt (Nat.lt_of_lt_of_le (by have := World.block_lt_of_cell? _ _ hw454_1; first | rwa [add_block] at this | exact this) GW456.out)) | (show (Addr.add _ _).block ≠ _; rw [add_block]; exact Nat.ne_of_lt (Nat.lt_of_lt_of_le (by have := World.block_lt_of_cell? _ _ hw454_1; first | rwa [add_block] at this | exact this) GW456.out)) | (dsimp only; exact Nat.ne_of_lt (Nat.lt_of_lt_of_le (by have := World.block_lt_of_cell? _ _ hw454_1; first | rwa [add_block] at this | exact this) GW456.out))) _).trans (((cell_far (p := ⟨gb456, _, none⟩) (by first | exact Nat.ne_of_lt (Nat.lt_of_lt_of_le (by have := World.block_lt_of_cell? _ _ hw454_1; first | rwa [add_block] at this | exact this) GW456.out) | (rw [add_block]; exact Nat.ne_of_lt (Nat.lt_of_lt_of_le (by have := World.block_lt_of_cell? _ _ hw454_1; first | rwa [add_block] at this | exact this) GW456.out)) | (show (Addr.add _ _).block ≠ _; rw [add_block]; exact Nat.ne_of_lt (Nat.lt_of_lt_of_le (by have := World.block_lt_of_cell? _ _ hw454_1; first | rwa [add_block] at this | exact this) GW456.out)) | (dsimp only; exact Nat.ne_of_lt (Nat.lt_of_lt_of_le (by have := World.block_lt_of_cell? _ _ hw454_1; first | rwa [add_block] at this | exact this) GW456.out))) _).trans (hHeld.2.1)))))), ((cell_far (p := ⟨gb456, _, none⟩) (by first | exact Nat.ne_of_lt (Nat.lt_of_lt_of_le (by have := World.block_lt_of_cell? _ _ hw454_2; first | rwa [add_block] at this | exact this) GW456.out) | (rw [add_block]; exact Nat.ne_of_lt (Nat.lt_of_lt_of_le (by have := World.block_lt_of_cell? _ _ hw454_2; first | rwa [add_block] at this | exact this) GW456.out)) | (show (Addr.add _ _).block ≠ _; rw [add_block]; exact Nat.ne_of_lt (Nat.lt_of_lt_of_le (by have := World.block_lt_of_cell? _ _ hw454_2; first | rwa [add_block] at this | exact this) GW456.out)) | (dsimp only; exact Nat.ne_of_lt (Nat.lt_of_lt_of_le (by have := World.block_lt_of_cell? _ _ hw454_2; first | rwa [add_block] at this | exact this) GW456.out))) _).trans (((cell_far (p := ⟨gb456, _, none⟩) (by first | exact Nat.ne_of_lt (Nat.lt_of_lt_of_le (by have := World.block_lt_of_cell? _ _ hw454_2; first | rwa [add_block] at this | exact this) GW456.out) | (rw [add_block]; exact Nat.ne_of_lt (Nat.lt_of_lt_of_le (by have := World.block_lt_of_cell? _ _ hw454_2; first | rwa [add_block] at this | exact this) GW456.out)) | (show (Addr.add _ _).block ≠ _; rw [add_block]; exact Nat.ne_of_lt (Nat.lt_of_lt_of_le (by have := World.block_lt_of_cell? _ _ hw454_2; first | rwa [add_block] at this | exact this) GW456.out)) | (dsimp only; exact Nat.ne_of_lt (Nat.lt_of_lt_of_le (by have := World.block_lt_of_cell? _ _ hw454_2; first | rwa [add_block] at this | exact this) GW456.out))) _).trans (((cell_far (p := ⟨gb456, _, none⟩) (by first | exact Nat.ne_of_lt (Nat.lt_of_lt_of_le (by have := World.block_lt_of_cell? _ _ hw454_2; first | rwa [add_block] at this | exact this) GW456.out) | (rw [add_block]; exact Nat.ne_of_lt (Nat.lt_of_lt_of_le (by have := World.block_lt_of_cell? _ _ hw454_2; first | rwa [add_block] at this | exact this) GW456.out)) | (show (Addr.add _ _).block ≠ _; rw [add_block]; exact Nat.ne_of_lt (Nat.lt_of_lt_of_le (by have := World.block_lt_of_cell? _ _ hw454_2; first | rwa [add_block] at this | exact this) GW456.out)) | (dsimp only; exact Nat.ne_of_lt (Nat.lt_of_lt_of_le (by have := World.block_lt_of_cell? _ _ hw454_2; first | rwa [add_block] at this | exact this) GW456.out))) _).trans (hHeld.2.2.1)))))), ((cell_far (p := ⟨gb456, _, none⟩) (by first | exact Nat.ne_of_lt (Nat.lt_of_lt_of_le (by have := World.block_lt_of_cell? _ _ hw455_0; first | rwa [add_block] at this | exact this) GW456.out) | (rw [add_block]; exact Nat.ne_of_lt (Nat.lt_of_lt_of_le (by have := World.block_lt_of_cell? _ _ hw455_0; first | rwa [add_block] at this | exact this) GW456.out)) | (show (Addr.add _ _).block ≠ _; rw [add_block]; exact Nat.ne_of_lt (Nat.lt_of_lt_of_le (by have := World.block_lt_of_cell? _ _ hw455_0; first | rwa [add_block] at this | exact this) GW456.out)) | (dsimp only; exact Nat.ne_of_lt (Nat.lt_of_lt_of_le (by have := World.block_lt_of_cell? _ _ hw455_0; first | rwa [add_block] at this | exact this) GW456.out))) _).trans (((cell_far (p := ⟨gb456, _, none⟩) (by first | exact Nat.ne_of_lt (Nat.lt_of_lt_of_le (by have := World.block_lt_of_cell? _ _ hw455_0; first | rwa [add_block] at this | exact this) GW456.out) | (rw [add_block]; exact Nat.ne_of_lt (Nat.lt_of_lt_of_le (by have := World.block_lt_of_cell? _ _ hw455_0; first | rwa [add_block] at this | exact this) GW456.out)) | (show (Addr.add _ _).block ≠ _; rw [add_block]; exact Nat.ne_of_lt (Nat.lt_of_lt_of_le (by have := World.block_lt_of_cell? _ _ hw455_0; first | rwa [add_block] at this | exact this) GW456.out)) | (dsimp only; exact Nat.ne_of_lt (Nat.lt_of_lt_of_le (by have := World.block_lt_of_cell? _ _ hw455_0; first | rwa [add_block] at this | exact this) GW456.out))) _).trans (((cell_far (p := ⟨gb456, _, none⟩) (by first | exact Nat.ne_of_lt (Nat.lt_of_lt_of_le (by have := World.block_lt_of_cell? _ _ hw455_0; first | rwa [add_block] at this | exact this) GW456.out) | (rw [add_block]; exact Nat.ne_of_lt (Nat.lt_of_lt_of_le (by have := World.block_lt_of_cell? _ _ hw455_0; first | rwa [add_block] at this | exact this) GW456.out)) | (show (Addr.add _ _).block ≠ _; rw [add_block]; exact Nat.ne_of_lt (Nat.lt_of_lt_of_le (by have := World.block_lt_of_cell? _ _ hw455_0; first | rwa [add_block] at this | exact this) GW456.out)) | (dsimp only; exact Nat.ne_of_lt (Nat.lt_of_lt_of_le (by have := World.block_lt_of_cell? _ _ hw455_0; first | rwa [add_block] at this | exact this) GW456.out))) _).trans (hHeld.2.2.2.1)))))), ((cell_far (p := ⟨gb456, _, none⟩) (by first | exact Nat.ne_of_lt (Nat.lt_of_lt_of_le (by have := World.block_lt_of_cell? _ _ hw455_1; first | rwa [add_block] at this | exact this) GW456.out) | (rw [add_block]; exact Nat.ne_of_lt (Nat.lt_of_lt_of_le (by have := World.block_lt_of_cell? _ _ hw455_1; first | rwa [add_block] at this | exact this) GW456.out)) | (show (Addr.add _ _).block ≠ _; rw [add_block]; exact Nat.ne_of_lt (Nat.lt_of_lt_of_le (by have := World.block_lt_of_cell? _ _ hw455_1; first | rwa [add_block] at this | exact this) GW456.out)) | (dsimp only; exact Nat.ne_of_lt (Nat.lt_of_lt_of_le (by have := World.block_lt_of_cell? _ _ hw455_1; first | rwa [add_block] at this | exact this) GW456.out))) _).trans (((cell_far (p := ⟨gb456, _, none⟩) (by first | exact Nat.ne_of_lt (Nat.lt_of_lt_of_le (by have := World.block_lt_of_cell? _ _ hw455_1; first | rwa [add_block] at this | exact this) GW456.out) | (rw [add_block]; exact Nat.ne_of_lt (Nat.lt_of_lt_of_le (by have := World.block_lt_of_cell? _ _ hw455_1; first | rwa [add_block] at this | exact this) GW456.out)) | (show (Addr.add _ _).block ≠ _; rw [add_block]; exact Nat.ne_of_lt (Nat.lt_of_lt_of_le (by have := World.block_lt_of_cell? _ _ hw455_1; first | rwa [add_block] at this | exact this) GW456.out)) | (dsimp only; exact Nat.ne_of_lt (Nat.lt_of_lt_of_le (by have := World.block_lt_of_cell? _ _ hw455_1; first | rwa [add_block] at this | exact this) GW456.out))) _).trans (((cell_far (p := ⟨gb456, _, none⟩) (by first | exact Nat.ne_of_lt (Nat.lt_of_lt_of_le (by have := World.block_lt_of_cell? _ _ hw455_1; first | rwa [add_block] at this | exact this) GW456.out) | (rw [add_block]; exact Nat.ne_of_lt (Nat.lt_of_lt_of_le (by have := World.block_lt_of_cell? _ _ hw455_1; first | rwa [add_block] at this | exact this) GW456.out)) | (show (Addr.add _ _).block ≠ _; rw [add_block]; exact Nat.ne_of_lt (Nat.lt_of_lt_of_le (by have := World.block_lt_of_cell? _ _ hw455_1; first | rwa [add_block] at this | exact this) GW456.out)) | (dsimp only; exact Nat.ne_of_lt (Nat.lt_of_lt_of_le (by have := World.block_lt_of_cell? _ _ hw455_1; first | rwa [add_block] at this | exact this) GW456.out))) _).trans (hHeld.2.2.2.2.1)))))), ((cell_far (p := ⟨gb456, _, none⟩) (by first | exact Nat.ne_of_lt (Nat.lt_of_lt_of_le (by have := World.block_lt_of_cell? _ _ hw455_2; first | rwa [add_block] at this | exact this) GW456.out) | (rw [add_block]; exact Nat.ne_of_lt (Nat.lt_of_lt_of_le (by have := World.block_lt_of_cell? _ _ hw455_2; first | rwa [add_block] at this | exact this) GW456.out)) | (show (Addr.add _ _).block ≠ _; rw [add_block]; exact Nat.ne_of_lt (Nat.lt_of_lt_of_le (by have := World.block_lt_of_cell? _ _ hw455_2; first | rwa [add_block] at this | exact this) GW456.out)) | (dsimp only; exact Nat.ne_of_lt (Nat.lt_of_lt_of_le (by have := World.block_lt_of_cell? _ _ hw455_2; first | rwa [add_block] at this | exact this) GW456.out))) _).trans (((cell_far (p := ⟨gb456, _, none⟩) (by first | exact Nat.ne_of_lt (Nat.lt_of_lt_of_le (by have := World.block_lt_of_cell? _ _ hw455_2; first | rwa [add_block] at this | exact this) GW456.out) | (rw [add_block]; exact Nat.ne_of_lt (Nat.lt_of_lt_of_le (by have := World.block_lt_of_cell? _ _ hw455_2; first | rwa [add_block] at this | exact this) GW456.out)) | (show (Addr.add _ _).block ≠ _; rw [add_block]; exact Nat.ne_of_lt (Nat.lt_of_lt_of_le (by have := World.block_lt_of_cell? _ _ hw455_2; first | rwa [add_block] at this | exact this) GW456.out)) | (dsimp only; exact Nat.ne_of_lt (Nat.lt_of_lt_of_le (by have := World.block_lt_of_cell? _ _ hw455_2; first | rwa [add_block] at this | exact this) GW456.out))) _).trans (((cell_far (p := ⟨gb456, _, none⟩) (by first | exact Nat.ne_of_lt (Nat.lt_of_lt_of_le (by have := World.block_lt_of_cell? _ _ hw455_2; first | rwa [add_block] at this | exact this) GW456.out) | (rw [add_block]; exact Nat.ne_of_lt (Nat.lt_of_lt_of_le (by have := World.block_lt_of_cell? _ _ hw455_2; first | rwa [add_block] at this | exact this) GW456.out)) | (show (Addr.add _ _).block ≠ _; rw [add_block]; exact Nat.ne_of_lt (Nat.lt_of_lt_of_le (by have := World.block_lt_of_cell? _ _ hw455_2; first | rwa [add_block] at this | exact this) GW456.out)) | (dsimp only; exact Nat.ne_of_lt (Nat.lt_of_lt_of_le (by have := World.block_lt_of_cell? _ _ hw455_2; first | rwa [add_block] at this | exact this) GW456.out))) _).trans (hHeld.2.2.2.2.2))))))⟩ (fun hHeld => ?_)
        clear hK K
        refine one_ (i := 9) (N := none) #[true, true, true, true, true, true, true, true, true, true] rfl rfl (one_of HT_.out (by kernel_rfl)) (by decide) (fun K hK => ?_)
        have hs22 : w18.cell? ⟨gb457, 0, none⟩ = some (.int .i64 0) := (blk_cell BK457.out 0).trans rfl
        have hfs22 := blk_frozen BK457.out 0
        have hns22_0 := NB451_457.out
        have hns22_1 := NB452_457.out
        have hns22_2 := NB456_457.out
        have hms22_0 := NB457_451.out
        have hms22_1 := NB457_452.out
        have hms22_2 := NB457_456.out
        have hs23 : w18.cell? ⟨gb457, 1, none⟩ = some (.int .i64 0) := (blk_cell BK457.out 1).trans rfl
        have hfs23 := blk_frozen BK457.out 1
        have hns23_0 := NB451_457.out
        have hns23_1 := NB452_457.out
        have hns23_2 := NB456_457.out
        have hms23_0 := NB457_451.out
        have hms23_1 := NB457_452.out
        have hms23_2 := NB457_456.out
        have hs24 : w18.cell? ⟨gb457, 2, none⟩ = some (.int .i64 0) := (blk_cell BK457.out 2).trans rfl
        have hfs24 := blk_frozen BK457.out 2
        have hns24_0 := NB451_457.out
        have hns24_1 := NB452_457.out
        have hns24_2 := NB456_457.out
        have hms24_0 := NB457_451.out
        have hms24_1 := NB457_452.out
        have hms24_2 := NB457_456.out
        refine skip_ (w1 := ?_) (by rfl) rfl ?_ ?_
        rotate_left
        · go_simp
          rfl
        refine hK.out _ _ ⟨((cell_far (p := ⟨gb457, _, none⟩) (by first | exact Nat.ne_of_lt (Nat.lt_of_lt_of_le (by have := World.block_lt_of_cell? _ _ hw454_0; first | rwa [add_block] at this | exact this) GW457.out) | (rw [add_block]; exact Nat.ne_of_lt (Nat.lt_of_lt_of_le (by have := World.block_lt_of_cell? _ _ hw454_0; first | rwa [add_block] at this | exact this) GW457.out)) | (show (Addr.add _ _).block ≠ _; rw [add_block]; exact Nat.ne_of_lt (Nat.lt_of_lt_of_le (by have := World.block_lt_of_cell? _ _ hw454_0; first | rwa [add_block] at this | exact this) GW457.out)) | (dsimp only; exact Nat.ne_of_lt (Nat.lt_of_lt_of_le (by have := World.block_lt_of_cell? _ _ hw454_0; first | rwa [add_block] at this | exact this) GW457.out))) _).trans (((cell_far (p := ⟨gb457, _, none⟩) (by first | exact Nat.ne_of_lt (Nat.lt_of_lt_of_le (by have := World.block_lt_of_cell? _ _ hw454_0; first | rwa [add_block] at this | exact this) GW457.out) | (rw [add_block]; exact Nat.ne_of_lt (Nat.lt_of_lt_of_le (by have := World.block_lt_of_cell? _ _ hw454_0; first | rwa [add_block] at this | exact this) GW457.out)) | (show (Addr.add _ _).block ≠ _; rw [add_block]; exact Nat.ne_of_lt (Nat.lt_of_lt_of_le (by have := World.block_lt_of_cell? _ _ hw454_0; first | rwa [add_block] at this | exact this) GW457.out)) | (dsimp only; exact Nat.ne_of_lt (Nat.lt_of_lt_of_le (by have := World.block_lt_of_cell? _ _ hw454_0; first | rwa [add_block] at this | exact this) GW457.out))) _).trans (((cell_far (p := ⟨gb457, _, none⟩) (by first | exact Nat.ne_of_lt (Nat.lt_of_lt_of_le (by have := World.block_lt_of_cell? _ _ hw454_0; first | rwa [add_block] at this | exact this) GW457.out) | (rw [add_block]; exact Nat.ne_of_lt (Nat.lt_of_lt_of_le (by have := World.block_lt_of_cell? _ _ hw454_0; first | rwa [add_block] at this | exact this) GW457.out)) | (show (Addr.add _ _).block ≠ _; rw [add_block]; exact Nat.ne_of_lt (Nat.lt_of_lt_of_le (by have := World.block_lt_of_cell? _ _ hw454_0; first | rwa [add_block] at this | exact this) GW457.out)) | (dsimp only; exact Nat.ne_of_lt (Nat.lt_of_lt_of_le (by have := World.block_lt_of_cell? _ _ hw454_0; first | rwa [add_block] at this | exact this) GW457.out))) _).trans (hHeld.1)))))), ((cell_far (p := ⟨gb457, _, none⟩) (by first | exact Nat.ne_of_lt (Nat.lt_of_lt_of_le (by have := World.block_lt_of_cell? _ _ hw454_1; first | rwa [add_block] at this | exact this) GW457.out) | (rw [add_block]; exact Nat.ne_of_lt (Nat.lt_of_lt_of_le (by have := World.block_lt_of_cell? _ _ hw454_1; first | rwa [add_block] at this | exact this) GW457.out)) | (show (Addr.add _ _).block ≠ _; rw [add_block]; exact Nat.ne_of_lt (Nat.lt_of_lt_of_le (by have := World.block_lt_of_cell? _ _ hw454_1; first | rwa [add_block] at this | exact this) GW457.out)) | (dsimp only; exact Nat.ne_of_lt (Nat.lt_of_lt_of_le (by have := World.block_lt_of_cell? _ _ hw454_1; first | rwa [add_block] at this | exact this) GW457.out))) _).trans (((cell_far (p := ⟨gb457, _, none⟩) (by first | exact Nat.ne_of_lt (Nat.lt_of_lt_of_le (by have := World.block_lt_of_cell? _ _ hw454_1; first | rwa [add_block] at this | exact this) GW457.out) | (rw [add_block]; exact Nat.ne_of_lt (Nat.lt_of_lt_of_le (by have := World.block_lt_of_cell? _ _ hw454_1; first | rwa [add_block] at this | exact this) GW457.out)) | (show (Addr.add _ _).block ≠ _; rw [add_block]; exact Nat.ne_of_lt (Nat.lt_of_lt_of_le (by have := World.block_lt_of_cell? _ _ hw454_1; first | rwa [add_block] at this | exact this) GW457.out)) | (dsimp only; exact Nat.ne_of_lt (Nat.lt_of_lt_of_le (by have := World.block_lt_of_cell? _ _ hw454_1; first | rwa [add_block] at this | exact this) GW457.out))) _).trans (((cell_far (p := ⟨gb457, _, none⟩) (by first | exact Nat.ne_of_lt (Nat.lt_of_lt_of_le (by have := World.block_lt_of_cell? _ _ hw454_1; first | rwa [add_block] at this | exact this) GW457.out) | (rw [add_block]; exact Nat.ne_of_lt (Nat.lt_of_lt_of_le (by have := World.block_lt_of_cell? _ _ hw454_1; first | rwa [add_block] at this | exact this) GW457.out)) | (show (Addr.add _ _).block ≠ _; rw [add_block]; exact Nat.ne_of_lt (Nat.lt_of_lt_of_le (by have := World.block_lt_of_cell? _ _ hw454_1; first | rwa [add_block] at this | exact this) GW457.out)) | (dsimp only; exact Nat.ne_of_lt (Nat.lt_of_lt_of_le (by have := World.block_lt_of_cell? _ _ hw454_1; first | rwa [add_block] at this | exact this) GW457.out))) _).trans (hHeld.2.1)))))), ((cell_far (p := ⟨gb457, _, none⟩) (by first | exact Nat.ne_of_lt (Nat.lt_of_lt_of_le (by have := World.block_lt_of_cell? _ _ hw454_2; first | rwa [add_block] at this | exact this) GW457.out) | (rw [add_block]; exact Nat.ne_of_lt (Nat.lt_of_lt_of_le (by have := World.block_lt_of_cell? _ _ hw454_2; first | rwa [add_block] at this | exact this) GW457.out)) | (show (Addr.add _ _).block ≠ _; rw [add_block]; exact Nat.ne_of_lt (Nat.lt_of_lt_of_le (by have := World.block_lt_of_cell? _ _ hw454_2; first | rwa [add_block] at this | exact this) GW457.out)) | (dsimp only; exact Nat.ne_of_lt (Nat.lt_of_lt_of_le (by have := World.block_lt_of_cell? _ _ hw454_2; first | rwa [add_block] at this | exact this) GW457.out))) _).trans (((cell_far (p := ⟨gb457, _, none⟩) (by first | exact Nat.ne_of_lt (Nat.lt_of_lt_of_le (by have := World.block_lt_of_cell? _ _ hw454_2; first | rwa [add_block] at this | exact this) GW457.out) | (rw [add_block]; exact Nat.ne_of_lt (Nat.lt_of_lt_of_le (by have := World.block_lt_of_cell? _ _ hw454_2; first | rwa [add_block] at this | exact this) GW457.out)) | (show (Addr.add _ _).block ≠ _; rw [add_block]; exact Nat.ne_of_lt (Nat.lt_of_lt_of_le (by have := World.block_lt_of_cell? _ _ hw454_2; first | rwa [add_block] at this | exact this) GW457.out)) | (dsimp only; exact Nat.ne_of_lt (Nat.lt_of_lt_of_le (by have := World.block_lt_of_cell? _ _ hw454_2; first | rwa [add_block] at this | exact this) GW457.out))) _).trans (((cell_far (p := ⟨gb457, _, none⟩) (by first | exact Nat.ne_of_lt (Nat.lt_of_lt_of_le (by have := World.block_lt_of_cell? _ _ hw454_2; first | rwa [add_block] at this | exact this) GW457.out) | (rw [add_block]; exact Nat.ne_of_lt (Nat.lt_of_lt_of_le (by have := World.block_lt_of_cell? _ _ hw454_2; first | rwa [add_block] at this | exact this) GW457.out)) | (show (Addr.add _ _).block ≠ _; rw [add_block]; exact Nat.ne_of_lt (Nat.lt_of_lt_of_le (by have := World.block_lt_of_cell? _ _ hw454_2; first | rwa [add_block] at this | exact this) GW457.out)) | (dsimp only; exact Nat.ne_of_lt (Nat.lt_of_lt_of_le (by have := World.block_lt_of_cell? _ _ hw454_2; first | rwa [add_block] at this | exact this) GW457.out))) _).trans (hHeld.2.2.1)))))), ((cell_far (p := ⟨gb457, _, none⟩) (by first | exact Nat.ne_of_lt (Nat.lt_of_lt_of_le (by have := World.block_lt_of_cell? _ _ hw455_0; first | rwa [add_block] at this | exact this) GW457.out) | (rw [add_block]; exact Nat.ne_of_lt (Nat.lt_of_lt_of_le (by have := World.block_lt_of_cell? _ _ hw455_0; first | rwa [add_block] at this | exact this) GW457.out)) | (show (Addr.add _ _).block ≠ _; rw [add_block]; exact Nat.ne_of_lt (Nat.lt_of_lt_of_le (by have := World.block_lt_of_cell? _ _ hw455_0; first | rwa [add_block] at this | exact this) GW457.out)) | (dsimp only; exact Nat.ne_of_lt (Nat.lt_of_lt_of_le (by have := World.block_lt_of_cell? _ _ hw455_0; first | rwa [add_block] at this | exact this) GW457.out))) _).trans (((cell_far (p := ⟨gb457, _, none⟩) (by first | exact Nat.ne_of_lt (Nat.lt_of_lt_of_le (by have := World.block_lt_of_cell? _ _ hw455_0; first | rwa [add_block] at this | exact this) GW457.out) | (rw [add_block]; exact Nat.ne_of_lt (Nat.lt_of_lt_of_le (by have := World.block_lt_of_cell? _ _ hw455_0; first | rwa [add_block] at this | exact this) GW457.out)) | (show (Addr.add _ _).block ≠ _; rw [add_block]; exact Nat.ne_of_lt (Nat.lt_of_lt_of_le (by have := World.block_lt_of_cell? _ _ hw455_0; first | rwa [add_block] at this | exact this) GW457.out)) | (dsimp only; exact Nat.ne_of_lt (Nat.lt_of_lt_of_le (by have := World.block_lt_of_cell? _ _ hw455_0; first | rwa [add_block] at this | exact this) GW457.out))) _).trans (((cell_far (p := ⟨gb457, _, none⟩) (by first | exact Nat.ne_of_lt (Nat.lt_of_lt_of_le (by have := World.block_lt_of_cell? _ _ hw455_0; first | rwa [add_block] at this | exact this) GW457.out) | (rw [add_block]; exact Nat.ne_of_lt (Nat.lt_of_lt_of_le (by have := World.block_lt_of_cell? _ _ hw455_0; first | rwa [add_block] at this | exact this) GW457.out)) | (show (Addr.add _ _).block ≠ _; rw [add_block]; exact Nat.ne_of_lt (Nat.lt_of_lt_of_le (by have := World.block_lt_of_cell? _ _ hw455_0; first | rwa [add_block] at this | exact this) GW457.out)) | (dsimp only; exact Nat.ne_of_lt (Nat.lt_of_lt_of_le (by have := World.block_lt_of_cell? _ _ hw455_0; first | rwa [add_block] at this | exact this) GW457.out))) _).trans (hHeld.2.2.2.1)))))), ((cell_far (p := ⟨gb457, _, none⟩) (by first | exact Nat.ne_of_lt (Nat.lt_of_lt_of_le (by have := World.block_lt_of_cell? _ _ hw455_1; first | rwa [add_block] at this | exact this) GW457.out) | (rw [add_block]; exact Nat.ne_of_lt (Nat.lt_of_lt_of_le (by have := World.block_lt_of_cell? _ _ hw455_1; first | rwa [add_block] at this | exact this) GW457.out)) | (show (Addr.add _ _).block ≠ _; rw [add_block]; exact Nat.ne_of_lt (Nat.lt_of_lt_of_le (by have := World.block_lt_of_cell? _ _ hw455_1; first | rwa [add_block] at this | exact this) GW457.out)) | (dsimp only; exact Nat.ne_of_lt (Nat.lt_of_lt_of_le (by have := World.block_lt_of_cell? _ _ hw455_1; first | rwa [add_block] at this | exact this) GW457.out))) _).trans (((cell_far (p := ⟨gb457, _, none⟩) (by first | exact Nat.ne_of_lt (Nat.lt_of_lt_of_le (by have := World.block_lt_of_cell? _ _ hw455_1; first | rwa [add_block] at this | exact this) GW457.out) | (rw [add_block]; exact Nat.ne_of_lt (Nat.lt_of_lt_of_le (by have := World.block_lt_of_cell? _ _ hw455_1; first | rwa [add_block] at this | exact this) GW457.out)) | (show (Addr.add _ _).block ≠ _; rw [add_block]; exact Nat.ne_of_lt (Nat.lt_of_lt_of_le (by have := World.block_lt_of_cell? _ _ hw455_1; first | rwa [add_block] at this | exact this) GW457.out)) | (dsimp only; exact Nat.ne_of_lt (Nat.lt_of_lt_of_le (by have := World.block_lt_of_cell? _ _ hw455_1; first | rwa [add_block] at this | exact this) GW457.out))) _).trans (((cell_far (p := ⟨gb457, _, none⟩) (by first | exact Nat.ne_of_lt (Nat.lt_of_lt_of_le (by have := World.block_lt_of_cell? _ _ hw455_1; first | rwa [add_block] at this | exact this) GW457.out) | (rw [add_block]; exact Nat.ne_of_lt (Nat.lt_of_lt_of_le (by have := World.block_lt_of_cell? _ _ hw455_1; first | rwa [add_block] at this | exact this) GW457.out)) | (show (Addr.add _ _).block ≠ _; rw [add_block]; exact Nat.ne_of_lt (Nat.lt_of_lt_of_le (by have := World.block_lt_of_cell? _ _ hw455_1; first | rwa [add_block] at this | exact this) GW457.out)) | (dsimp only; exact Nat.ne_of_lt (Nat.lt_of_lt_of_le (by have := World.block_lt_of_cell? _ _ hw455_1; first | rwa [add_block] at this | exact this) GW457.out))) _).trans (hHeld.2.2.2.2.1)))))), ((cell_far (p := ⟨gb457, _, none⟩) (by first | exact Nat.ne_of_lt (Nat.lt_of_lt_of_le (by have := World.block_lt_of_cell? _ _ hw455_2; first | rwa [add_block] at this | exact this) GW457.out) | (rw [add_block]; exact Nat.ne_of_lt (Nat.lt_of_lt_of_le (by have := World.block_lt_of_cell? _ _ hw455_2; first | rwa [add_block] at this | exact this) GW457.out)) | (show (Addr.add _ _).block ≠ _; rw [add_block]; exact Nat.ne_of_lt (Nat.lt_of_lt_of_le (by have := World.block_lt_of_cell? _ _ hw455_2; first | rwa [add_block] at this | exact this) GW457.out)) | (dsimp only; exact Nat.ne_of_lt (Nat.lt_of_lt_of_le (by have := World.block_lt_of_cell? _ _ hw455_2; first | rwa [add_block] at this | exact this) GW457.out))) _).trans (((cell_far (p := ⟨gb457, _, none⟩) (by first | exact Nat.ne_of_lt (Nat.lt_of_lt_of_le (by have := World.block_lt_of_cell? _ _ hw455_2; first | rwa [add_block] at this | exact this) GW457.out) | (rw [add_block]; exact Nat.ne_of_lt (Nat.lt_of_lt_of_le (by have := World.block_lt_of_cell? _ _ hw455_2; first | rwa [add_block] at this | exact this) GW457.out)) | (show (Addr.add _ _).block ≠ _; rw [add_block]; exact Nat.ne_of_lt (Nat.lt_of_lt_of_le (by have := World.block_lt_of_cell? _ _ hw455_2; first | rwa [add_block] at this | exact this) GW457.out)) | (dsimp only; exact Nat.ne_of_lt (Nat.lt_of_lt_of_le (by have := World.block_lt_of_cell? _ _ hw455_2; first | rwa [add_block] at this | exact this) GW457.out))) _).trans (((cell_far (p := ⟨gb457, _, none⟩) (by first | exact Nat.ne_of_lt (Nat.lt_of_lt_of_le (by have := World.block_lt_of_cell? _ _ hw455_2; first | rwa [add_block] at this | exact this) GW457.out) | (rw [add_block]; exact Nat.ne_of_lt (Nat.lt_of_lt_of_le (by have := World.block_lt_of_cell? _ _ hw455_2; first | rwa [add_block] at this | exact this) GW457.out)) | (show (Addr.add _ _).block ≠ _; rw [add_block]; exact Nat.ne_of_lt (Nat.lt_of_lt_of_le (by have := World.block_lt_of_cell? _ _ hw455_2; first | rwa [add_block] at this | exact this) GW457.out)) | (dsimp only; exact Nat.ne_of_lt (Nat.lt_of_lt_of_le (by have := World.block_lt_of_cell? _ _ hw455_2; first | rwa [add_block] at this | exact this) GW457.out))) _).trans (hHeld.2.2.2.2.2))))))⟩ (fun hHeld => ?_)
        clear hK K
        refine done_ (done_of HT_.out (by kernel_rfl)) ?_
        try go_wp2
        go_loopg [8] k (fun kq v8 w' => ∃ (x8_1 : Int) (x457000_1 : Int) (x457001_1 : Int) (x457002_1 : Int) (x458000_1 : Int) (x458001_1 : Int) (x458002_1 : Int), v8 = .int .i64 x8_1 ∧ Aside0 (metrolabref31_Box.l0 kq l0 x8_1 x457000_1 x457001_1 x457002_1 x458000_1 x458001_1 x458002_1 = some (r1, r2, r3, r4, r5, r6, r7)) ∧ Aside0 (kq ≤ k) ∧ Aside0 (w'.heap[gb451]? = some (.cells #[.int .i64 0, .int .i64 0, .int .i64 0] 30 (0, 0))) ∧ Aside0 (w'.heap[gb452]? = some (.cells #[.int .i64 0, .int .i64 0, .int .i64 0] 30 (0, 0))) ∧ Aside0 (w'.heap[gb456]? = some (.cells #[.int .i64 x457000_1, .int .i64 x457001_1, .int .i64 x457002_1] 30 (0, 0))) ∧ Aside0 (w'.heap[gb457]? = some (.cells #[.int .i64 x458000_1, .int .i64 x458001_1, .int .i64 x458002_1] 30 (0, 0))) ∧ Aside0 (Below w.heap.size w w'))
        case atStart => exact ⟨(0), ((rd_T30 l0 0).f0), ((rd_T30 l0 0).f1), ((rd_T30 l0 0).f2), ((rd_T30 l0 0).f0), ((rd_T30 l0 0).f1), ((rd_T30 l0 0).f2), (by first | rfl | (simp; done) | (simp [*]; done)), H', ⟨Nat.le_refl _⟩, ⟨by (with_reducible repeat (first | refine blk_drewN ?_ _ | refine blk_drew ?_ | refine blk_alloc ?_ _)); refine blk_far ?_ NB451_457.out _; (with_reducible repeat (first | refine blk_drewN ?_ _ | refine blk_drew ?_ | refine blk_alloc ?_ _)); refine blk_far ?_ NB451_457.out _; (with_reducible repeat (first | refine blk_drewN ?_ _ | refine blk_drew ?_ | refine blk_alloc ?_ _)); refine blk_far ?_ NB451_457.out _; (with_reducible repeat (first | refine blk_drewN ?_ _ | refine blk_drew ?_ | refine blk_alloc ?_ _)); refine blk_far ?_ NB451_456.out _; (with_reducible repeat (first | refine blk_drewN ?_ _ | refine blk_drew ?_ | refine blk_alloc ?_ _)); refine blk_far ?_ NB451_456.out _; (with_reducible repeat (first | refine blk_drewN ?_ _ | refine blk_drew ?_ | refine blk_alloc ?_ _)); refine blk_far ?_ NB451_456.out _; (with_reducible repeat (first | refine blk_drewN ?_ _ | refine blk_drew ?_ | refine blk_alloc ?_ _)); exact BK451.out⟩, ⟨by (with_reducible repeat (first | refine blk_drewN ?_ _ | refine blk_drew ?_ | refine blk_alloc ?_ _)); refine blk_far ?_ NB452_457.out _; (with_reducible repeat (first | refine blk_drewN ?_ _ | refine blk_drew ?_ | refine blk_alloc ?_ _)); refine blk_far ?_ NB452_457.out _; (with_reducible repeat (first | refine blk_drewN ?_ _ | refine blk_drew ?_ | refine blk_alloc ?_ _)); refine blk_far ?_ NB452_457.out _; (with_reducible repeat (first | refine blk_drewN ?_ _ | refine blk_drew ?_ | refine blk_alloc ?_ _)); refine blk_far ?_ NB452_456.out _; (with_reducible repeat (first | refine blk_drewN ?_ _ | refine blk_drew ?_ | refine blk_alloc ?_ _)); refine blk_far ?_ NB452_456.out _; (with_reducible repeat (first | refine blk_drewN ?_ _ | refine blk_drew ?_ | refine blk_alloc ?_ _)); refine blk_far ?_ NB452_456.out _; (with_reducible repeat (first | refine blk_drewN ?_ _ | refine blk_drew ?_ | refine blk_alloc ?_ _)); exact BK452.out⟩, ⟨by (with_reducible repeat (first | refine blk_drewN ?_ _ | refine blk_drew ?_ | refine blk_alloc ?_ _)); refine blk_far ?_ NB456_457.out _; (with_reducible repeat (first | refine blk_drewN ?_ _ | refine blk_drew ?_ | refine blk_alloc ?_ _)); refine blk_far ?_ NB456_457.out _; (with_reducible repeat (first | refine blk_drewN ?_ _ | refine blk_drew ?_ | refine blk_alloc ?_ _)); refine blk_far ?_ NB456_457.out _; (with_reducible repeat (first | refine blk_drewN ?_ _ | refine blk_drew ?_ | refine blk_alloc ?_ _)); refine blk_put (cs := #[.int .i64 ((rd_T30 l0 0).f0), .int .i64 ((rd_T30 l0 0).f1), .int .i64 0]) ?_ 2 _ rfl; (with_reducible repeat (first | refine blk_drewN ?_ _ | refine blk_drew ?_ | refine blk_alloc ?_ _)); refine blk_put (cs := #[.int .i64 ((rd_T30 l0 0).f0), .int .i64 0, .int .i64 0]) ?_ 1 _ rfl; (with_reducible repeat (first | refine blk_drewN ?_ _ | refine blk_drew ?_ | refine blk_alloc ?_ _)); refine blk_put (cs := #[.int .i64 0, .int .i64 0, .int .i64 0]) ?_ 0 _ rfl; (with_reducible repeat (first | refine blk_drewN ?_ _ | refine blk_drew ?_ | refine blk_alloc ?_ _)); exact BK456.out⟩, ⟨by (with_reducible repeat (first | refine blk_drewN ?_ _ | refine blk_drew ?_ | refine blk_alloc ?_ _)); refine blk_put (cs := #[.int .i64 ((rd_T30 l0 0).f0), .int .i64 ((rd_T30 l0 0).f1), .int .i64 0]) ?_ 2 _ rfl; (with_reducible repeat (first | refine blk_drewN ?_ _ | refine blk_drew ?_ | refine blk_alloc ?_ _)); refine blk_put (cs := #[.int .i64 ((rd_T30 l0 0).f0), .int .i64 0, .int .i64 0]) ?_ 1 _ rfl; (with_reducible repeat (first | refine blk_drewN ?_ _ | refine blk_drew ?_ | refine blk_alloc ?_ _)); refine blk_put (cs := #[.int .i64 0, .int .i64 0, .int .i64 0]) ?_ 0 _ rfl; (with_reducible repeat (first | refine blk_drewN ?_ _ | refine blk_drew ?_ | refine blk_alloc ?_ _)); refine blk_far ?_ NB457_456.out _; (with_reducible repeat (first | refine blk_drewN ?_ _ | refine blk_drew ?_ | refine blk_alloc ?_ _)); refine blk_far ?_ NB457_456.out _; (with_reducible repeat (first | refine blk_drewN ?_ _ | refine blk_drew ?_ | refine blk_alloc ?_ _)); refine blk_far ?_ NB457_456.out _; (with_reducible repeat (first | refine blk_drewN ?_ _ | refine blk_drew ?_ | refine blk_alloc ?_ _)); exact BK457.out⟩, ⟨by repeat (first | (with_reducible first | exact HB.out | apply below_alloc | apply pw_below_drewN | apply below_drew1 | refine below_set ?_ GE451.out | refine below_set ?_ GE452.out | refine below_set ?_ GE456.out | refine below_set ?_ GE457.out) | exact HB.out)⟩⟩
        case round =>
          clear H'
          try clear c1
          try clear p2
          try clear c3
          try clear c3b0
          try clear c3b1
          try clear c4
          try clear c4b0
          try clear c4b1
          try clear c4b2
          try clear p4
          try clear q4
          try clear hx4
          try clear qi4
          try clear c8
          try clear c11
          try clear c11b0
          try clear c11b1
          try clear hcz10_0
          try clear hcz10_1
          try clear hcz10_2
          try clear hcz9_0
          try clear hcz9_1
          try clear hcz9_2
          try clear hfz10_0
          try clear hfz10_1
          try clear hfz10_2
          try clear hfz9_0
          try clear hfz9_1
          try clear hfz9_2
          try clear hx454_0
          try clear hx454_1
          try clear hx454_2
          try clear hx455_0
          try clear hx455_1
          try clear hx455_2
          try clear p454
          try clear p455
          try clear q454
          try clear q455
          obtain ⟨x8_1, x457000_1, x457001_1, x457002_1, x458000_1, x458001_1, x458002_1, rfl, HA, HK1, BK451, BK452, BK456, BK457, HB⟩ := hrel
          cases gk with
          | zero => exact absurd HA.out (by simp [metrolabref31_Box.l0])
          | succ k1 =>
            have H := HA.out
            clear HA
            simp only [metrolabref31_Box.l0] at H
            by_cases c25 : x8_1 < (l0.length : Int)
            · rw [if_pos c25] at H
              have c25b0 : decide (x8_1 < (l0.length : Int)) = true := decide_eq_true c25
              clear c25
              by_cases c26 : 0 ≤ x8_1
              · rw [if_pos c26] at H
                have c26b0 : decide (0 ≤ x8_1) = true := decide_eq_true c26
                clear c26
                obtain ⟨ji27, hji27⟩ : ∃ j_ : Int, (mn x457000_1 ((rd_T30 l0 x8_1).f0)) = j_ := ⟨_, rfl⟩
                replace H : (metrolabref31_Box.l0 k1 l0 (wrap64 (x8_1 + 1)) ji27 (mn x457001_1 ((rd_T30 l0 x8_1).f1)) (mn x457002_1 ((rd_T30 l0 x8_1).f2)) (mx x458000_1 ((rd_T30 l0 x8_1).f0)) (mx x458001_1 ((rd_T30 l0 x8_1).f1)) (mx x458002_1 ((rd_T30 l0 x8_1).f2))) = some (r1, r2, r3, r4, r5, r6, r7) := by first | (rw [hji27] at H; exact H) | (simp only [hji27] at H ⊢; exact H)
                have hji27_ : (if ((rd_T30 l0 x8_1).f0) < x457000_1 then ((rd_T30 l0 x8_1).f0) else x457000_1) = ji27 := hji27
                obtain ⟨ji28, hji28⟩ : ∃ j_ : Int, (mn x457001_1 ((rd_T30 l0 x8_1).f1)) = j_ := ⟨_, rfl⟩
                replace H : (metrolabref31_Box.l0 k1 l0 (wrap64 (x8_1 + 1)) ji27 ji28 (mn x457002_1 ((rd_T30 l0 x8_1).f2)) (mx x458000_1 ((rd_T30 l0 x8_1).f0)) (mx x458001_1 ((rd_T30 l0 x8_1).f1)) (mx x458002_1 ((rd_T30 l0 x8_1).f2))) = some (r1, r2, r3, r4, r5, r6, r7) := by first | (rw [hji28] at H; exact H) | (simp only [hji28] at H ⊢; exact H)
                have hji28_ : (if ((rd_T30 l0 x8_1).f1) < x457001_1 then ((rd_T30 l0 x8_1).f1) else x457001_1) = ji28 := hji28
                obtain ⟨ji29, hji29⟩ : ∃ j_ : Int, (mn x457002_1 ((rd_T30 l0 x8_1).f2)) = j_ := ⟨_, rfl⟩
                replace H : (metrolabref31_Box.l0 k1 l0 (wrap64 (x8_1 + 1)) ji27 ji28 ji29 (mx x458000_1 ((rd_T30 l0 x8_1).f0)) (mx x458001_1 ((rd_T30 l0 x8_1).f1)) (mx x458002_1 ((rd_T30 l0 x8_1).f2))) = some (r1, r2, r3, r4, r5, r6, r7) := by first | (rw [hji29] at H; exact H) | (simp only [hji29] at H ⊢; exact H)
                have hji29_ : (if ((rd_T30 l0 x8_1).f2) < x457002_1 then ((rd_T30 l0 x8_1).f2) else x457002_1) = ji29 := hji29
                obtain ⟨ji30, hji30⟩ : ∃ j_ : Int, (mx x458000_1 ((rd_T30 l0 x8_1).f0)) = j_ := ⟨_, rfl⟩
                replace H : (metrolabref31_Box.l0 k1 l0 (wrap64 (x8_1 + 1)) ji27 ji28 ji29 ji30 (mx x458001_1 ((rd_T30 l0 x8_1).f1)) (mx x458002_1 ((rd_T30 l0 x8_1).f2))) = some (r1, r2, r3, r4, r5, r6, r7) := by first | (rw [hji30] at H; exact H) | (simp only [hji30] at H ⊢; exact H)
                have hji30_ : (if x458000_1 < ((rd_T30 l0 x8_1).f0) then ((rd_T30 l0 x8_1).f0) else x458000_1) = ji30 := hji30
                obtain ⟨ji31, hji31⟩ : ∃ j_ : Int, (mx x458001_1 ((rd_T30 l0 x8_1).f1)) = j_ := ⟨_, rfl⟩
                replace H : (metrolabref31_Box.l0 k1 l0 (wrap64 (x8_1 + 1)) ji27 ji28 ji29 ji30 ji31 (mx x458002_1 ((rd_T30 l0 x8_1).f2))) = some (r1, r2, r3, r4, r5, r6, r7) := by first | (rw [hji31] at H; exact H) | (simp only [hji31] at H ⊢; exact H)
                have hji31_ : (if x458001_1 < ((rd_T30 l0 x8_1).f1) then ((rd_T30 l0 x8_1).f1) else x458001_1) = ji31 := hji31
                obtain ⟨ji32, hji32⟩ : ∃ j_ : Int, (mx x458002_1 ((rd_T30 l0 x8_1).f2)) = j_ := ⟨_, rfl⟩
                replace H : (metrolabref31_Box.l0 k1 l0 (wrap64 (x8_1 + 1)) ji27 ji28 ji29 ji30 ji31 ji32) = some (r1, r2, r3, r4, r5, r6, r7) := by first | (rw [hji32] at H; exact H) | (simp only [hji32] at H ⊢; exact H)
                have hji32_ : (if x458002_1 < ((rd_T30 l0 x8_1).f2) then ((rd_T30 l0 x8_1).f2) else x458002_1) = ji32 := hji32
                have H' := Aside0.mk H
                clear H
                try go_wp2
                have n0_ := Aside0.mk (blk_drew BK451.out)
                have n1_ := Aside0.mk (blk_drew BK452.out)
                have n2_ := Aside0.mk (blk_drew BK456.out)
                have n3_ := Aside0.mk (blk_drew BK457.out)
                have n4_ := Aside0.mk (below_drew1 HB.out)
                clear BK451
                clear BK452
                clear BK456
                clear BK457
                clear HB
                have BK451 := n0_
                have BK452 := n1_
                have BK456 := n2_
                have BK457 := n3_
                have HB := n4_
                clear n0_ n1_ n2_ n3_ n4_
                have p458 : 0 ≤ (x8_1 : Int) := of_decide_eq_true (by first | (with_reducible assumption) | assumption)
                have q458 : x8_1 < (l0.length : Int) := of_decide_eq_true (by first | (with_reducible assumption) | assumption)
                obtain ⟨ad458, e458, hx458_0, hx458_1, hx458_2⟩ := at_T30 HR0.out x8_1 p458 q458
                have hw458_2 := hx458_2
                have hw458_1 := hx458_1
                have hw458_0 := hx458_0
                obtain rfl : ad454 = ad458 := (by injection e458)
                replace hx458_0 := (HB.out.cell (World.block_lt_of_cell? w _ hx458_0)).trans hx458_0
                replace hx458_1 := (HB.out.cell (World.block_lt_of_cell? w _ hx458_1)).trans hx458_1
                replace hx458_2 := (HB.out.cell (World.block_lt_of_cell? w _ hx458_2)).trans hx458_2
                replace p458 := eq_true p458
                replace q458 := eq_true q458
                have p459 : 0 ≤ (x8_1 : Int) := of_decide_eq_true (by first | (with_reducible assumption) | assumption)
                have q459 : x8_1 < (l0.length : Int) := of_decide_eq_true (by first | (with_reducible assumption) | assumption)
                obtain ⟨ad459, e459, hx459_0, hx459_1, hx459_2⟩ := at_T30 HR0.out x8_1 p459 q459
                have hw459_2 := hx459_2
                have hw459_1 := hx459_1
                have hw459_0 := hx459_0
                obtain rfl : ad454 = ad459 := (by injection e459)
                replace hx459_0 := (HB.out.cell (World.block_lt_of_cell? w _ hx459_0)).trans hx459_0
                replace hx459_1 := (HB.out.cell (World.block_lt_of_cell? w _ hx459_1)).trans hx459_1
                replace hx459_2 := (HB.out.cell (World.block_lt_of_cell? w _ hx459_2)).trans hx459_2
                replace p459 := eq_true p459
                replace q459 := eq_true q459
                have p460 : 0 ≤ (x8_1 : Int) := of_decide_eq_true (by first | (with_reducible assumption) | assumption)
                have q460 : x8_1 < (l0.length : Int) := of_decide_eq_true (by first | (with_reducible assumption) | assumption)
                obtain ⟨ad460, e460, hx460_0, hx460_1, hx460_2⟩ := at_T30 HR0.out x8_1 p460 q460
                have hw460_2 := hx460_2
                have hw460_1 := hx460_1
                have hw460_0 := hx460_0
                obtain rfl : ad454 = ad460 := (by injection e460)
                replace hx460_0 := (HB.out.cell (World.block_lt_of_cell? w _ hx460_0)).trans hx460_0
                replace hx460_1 := (HB.out.cell (World.block_lt_of_cell? w _ hx460_1)).trans hx460_1
                replace hx460_2 := (HB.out.cell (World.block_lt_of_cell? w _ hx460_2)).trans hx460_2
                replace p460 := eq_true p460
                replace q460 := eq_true q460
                refine start_ (n := 26) (S := fun w' => w'.cell? ⟨gb456, 0, none⟩ = some (.int .i64 x457000_1) ∧ w'.cell? ⟨gb456, 1, none⟩ = some (.int .i64 x457001_1) ∧ w'.cell? ⟨gb456, 2, none⟩ = some (.int .i64 x457002_1) ∧ w'.cell? (ad454.add ((x8_1).toNat * 3)) = some (.int .i64 ((rd_T30 l0 x8_1).f0)) ∧ w'.cell? ⟨(ad454.add ((x8_1).toNat * 3)).block, (ad454.add ((x8_1).toNat * 3)).off + 1, none⟩ = some (.int .i64 ((rd_T30 l0 x8_1).f1)) ∧ w'.cell? ⟨(ad454.add ((x8_1).toNat * 3)).block, (ad454.add ((x8_1).toNat * 3)).off + 2, none⟩ = some (.int .i64 ((rd_T30 l0 x8_1).f2)) ∧ w'.cell? (ad454.add ((x8_1).toNat * 3)) = some (.int .i64 ((rd_T30 l0 x8_1).f0)) ∧ w'.cell? ⟨(ad454.add ((x8_1).toNat * 3)).block, (ad454.add ((x8_1).toNat * 3)).off + 1, none⟩ = some (.int .i64 ((rd_T30 l0 x8_1).f1)) ∧ w'.cell? ⟨(ad454.add ((x8_1).toNat * 3)).block, (ad454.add ((x8_1).toNat * 3)).off + 2, none⟩ = some (.int .i64 ((rd_T30 l0 x8_1).f2)) ∧ w'.cell? (ad454.add ((x8_1).toNat * 3)) = some (.int .i64 ((rd_T30 l0 x8_1).f0)) ∧ w'.cell? ⟨(ad454.add ((x8_1).toNat * 3)).block, (ad454.add ((x8_1).toNat * 3)).off + 1, none⟩ = some (.int .i64 ((rd_T30 l0 x8_1).f1)) ∧ w'.cell? ⟨(ad454.add ((x8_1).toNat * 3)).block, (ad454.add ((x8_1).toNat * 3)).off + 2, none⟩ = some (.int .i64 ((rd_T30 l0 x8_1).f2))) (ds := [25]) #[false, false, false, false, false, false, false, false, false, false, false, false, false, false, false, false, false, false, false, false, false, false, false, false, false, false] (by kernel_rfl) rfl rfl ⟨(blk_cell BK456.out 0).trans rfl, (blk_cell BK456.out 1).trans rfl, (blk_cell BK456.out 2).trans rfl, ((HB.out.cell (World.block_lt_of_cell? w _ hw458_0)).trans hw458_0), ((HB.out.cell (World.block_lt_of_cell? w _ hw458_1)).trans hw458_1), ((HB.out.cell (World.block_lt_of_cell? w _ hw458_2)).trans hw458_2), ((HB.out.cell (World.block_lt_of_cell? w _ hw459_0)).trans hw459_0), ((HB.out.cell (World.block_lt_of_cell? w _ hw459_1)).trans hw459_1), ((HB.out.cell (World.block_lt_of_cell? w _ hw459_2)).trans hw459_2), ((HB.out.cell (World.block_lt_of_cell? w _ hw460_0)).trans hw460_0), ((HB.out.cell (World.block_lt_of_cell? w _ hw460_1)).trans hw460_1), ((HB.out.cell (World.block_lt_of_cell? w _ hw460_2)).trans hw460_2)⟩ (fun hHeld => ?_); refine with_tabW metrolabref31_Box.tab10 metrolabref31_Box.bits10 (fun HT_ HW_ => ?_)
                generalize wr.drew = w33 at BK451 BK452 BK456 BK457 HB hx458_0 hx458_1 hx458_2 hx459_0 hx459_1 hx459_2 hx460_0 hx460_1 hx460_2 hHeld ⊢
                refine pure_ (i := 0) (N := some 33) (v := ?_) (a' := ?_) #[true, false, false, false, false, false, false, false, false, false, false, false, false, false, false, false, false, false, false, false, false, false, false, false, false, false] rfl rfl (any_of HT_.out (by kernel_rfl)) (fun _ _ _ h => h) (Or.inl ⟨by rfl, ?_⟩) ?_ ?_
                rotate_left
                · intro w'
                  go_simp
                  with_reducible rfl
                rotate_left
                · simp only [Act.put, List.setIfInBounds_toArray, List.set_cons_zero, List.set_cons_succ, i64_w, i32_w]
                  rfl
                refine pure_ (i := 2) (N := some 35) (v := ?_) (a' := ?_) #[true, false, true, false, false, false, false, false, false, false, false, false, false, false, false, false, false, false, false, false, false, false, false, false, false, false] rfl rfl (any_of HT_.out (by kernel_rfl)) (fun _ _ _ h => h) (Or.inl ⟨by rfl, ?_⟩) ?_ ?_
                rotate_left
                · intro w'
                  go_simp
                  with_reducible rfl
                rotate_left
                · simp only [Act.put, List.setIfInBounds_toArray, List.set_cons_zero, List.set_cons_succ, i64_w, i32_w]
                  rfl
                refine pure_ (i := 3) (N := some 36) (v := ?_) (a' := ?_) #[true, false, true, true, false, false, false, false, false, false, false, false, false, false, false, false, false, false, false, false, false, false, false, false, false, false] rfl rfl (any_of HT_.out (by kernel_rfl)) (fun _ _ _ h => h) (Or.inl ⟨by rfl, ?_⟩) ?_ ?_
                rotate_left
                · intro w'
                  go_simp
                  with_reducible rfl
                rotate_left
                · simp only [Act.put, List.setIfInBounds_toArray, List.set_cons_zero, List.set_cons_succ, i64_w, i32_w]
                  rfl
                refine pure_ (i := 4) (N := some 37) (v := ?_) (a' := ?_) #[true, false, true, true, true, false, false, false, false, false, false, false, false, false, false, false, false, false, false, false, false, false, false, false, false, false] rfl rfl (any_of HT_.out (by kernel_rfl)) (fun _ _ _ h => h) (Or.inl ⟨by rfl, ?_⟩) ?_ ?_
                rotate_left
                · intro w'
                  go_simp
                  with_reducible rfl
                rotate_left
                · simp only [Act.put, List.setIfInBounds_toArray, List.set_cons_zero, List.set_cons_succ, i64_w, i32_w]
                  rfl
                refine pure_ (i := 5) (N := some 38) (v := ?_) (a' := ?_) #[true, false, true, true, true, true, false, false, false, false, false, false, false, false, false, false, false, false, false, false, false, false, false, false, false, false] rfl rfl (any_of HT_.out (by kernel_rfl)) (fun _ _ _ h => h) (Or.inl ⟨by rfl, ?_⟩) ?_ ?_
                rotate_left
                · intro w'
                  go_simp
                  with_reducible rfl
                rotate_left
                · simp only [Act.put, List.setIfInBounds_toArray, List.set_cons_zero, List.set_cons_succ, i64_w, i32_w]
                  rfl
                refine pure_ (i := 8) (N := some 41) (v := ?_) (a' := ?_) #[true, false, true, true, true, true, false, false, true, false, false, false, false, false, false, false, false, false, false, false, false, false, false, false, false, false] rfl rfl (any_of HT_.out (by kernel_rfl)) (fun _ _ _ h => h) (Or.inl ⟨by rfl, ?_⟩) ?_ ?_
                rotate_left
                · intro w'
                  go_simp
                  with_reducible rfl
                rotate_left
                · simp only [Act.put, List.setIfInBounds_toArray, List.set_cons_zero, List.set_cons_succ, i64_w, i32_w]
                  rfl
                refine pure_ (i := 10) (N := some 43) (v := ?_) (a' := ?_) #[true, false, true, true, true, true, false, false, true, false, true, false, false, false, false, false, false, false, false, false, false, false, false, false, false, false] rfl rfl (any_of HT_.out (by kernel_rfl)) (fun _ _ _ h => h) (Or.inl ⟨by rfl, ?_⟩) ?_ ?_
                rotate_left
                · intro w'
                  go_simp
                  with_reducible rfl
                rotate_left
                · simp only [Act.put, List.setIfInBounds_toArray, List.set_cons_zero, List.set_cons_succ, i64_w, i32_w]
                  rfl
                refine pure_ (i := 11) (N := some 44) (v := ?_) (a' := ?_) #[true, false, true, true, true, true, false, false, true, false, true, true, false, false, false, false, false, false, false, false, false, false, false, false, false, false] rfl rfl (any_of HT_.out (by kernel_rfl)) (fun _ _ _ h => h) (Or.inl ⟨by rfl, ?_⟩) ?_ ?_
                rotate_left
                · intro w'
                  go_simp
                  with_reducible rfl
                rotate_left
                · simp only [Act.put, List.setIfInBounds_toArray, List.set_cons_zero, List.set_cons_succ, i64_w, i32_w]
                  rfl
                refine pure_ (i := 12) (N := some 45) (v := ?_) (a' := ?_) #[true, false, true, true, true, true, false, false, true, false, true, true, true, false, false, false, false, false, false, false, false, false, false, false, false, false] rfl rfl (any_of HT_.out (by kernel_rfl)) (fun _ _ _ h => h) (Or.inl ⟨by rfl, ?_⟩) ?_ ?_
                rotate_left
                · intro w'
                  go_simp
                  with_reducible rfl
                rotate_left
                · simp only [Act.put, List.setIfInBounds_toArray, List.set_cons_zero, List.set_cons_succ, i64_w, i32_w]
                  rfl
                refine pure_ (i := 13) (N := some 46) (v := ?_) (a' := ?_) #[true, false, true, true, true, true, false, false, true, false, true, true, true, true, false, false, false, false, false, false, false, false, false, false, false, false] rfl rfl (any_of HT_.out (by kernel_rfl)) (fun _ _ _ h => h) (Or.inl ⟨by rfl, ?_⟩) ?_ ?_
                rotate_left
                · intro w'
                  go_simp
                  with_reducible rfl
                rotate_left
                · simp only [Act.put, List.setIfInBounds_toArray, List.set_cons_zero, List.set_cons_succ, i64_w, i32_w]
                  rfl
                refine pure_ (i := 16) (N := some 49) (v := ?_) (a' := ?_) #[true, false, true, true, true, true, false, false, true, false, true, true, true, true, false, false, true, false, false, false, false, false, false, false, false, false] rfl rfl (any_of HT_.out (by kernel_rfl)) (fun _ _ _ h => h) (Or.inl ⟨by rfl, ?_⟩) ?_ ?_
                rotate_left
                · intro w'
                  go_simp
                  with_reducible rfl
                rotate_left
                · simp only [Act.put, List.setIfInBounds_toArray, List.set_cons_zero, List.set_cons_succ, i64_w, i32_w]
                  rfl
                refine pure_ (i := 18) (N := some 51) (v := ?_) (a' := ?_) #[true, false, true, true, true, true, false, false, true, false, true, true, true, true, false, false, true, false, true, false, false, false, false, false, false, false] rfl rfl (any_of HT_.out (by kernel_rfl)) (fun _ _ _ h => h) (Or.inl ⟨by rfl, ?_⟩) ?_ ?_
                rotate_left
                · intro w'
                  go_simp
                  with_reducible rfl
                rotate_left
                · simp only [Act.put, List.setIfInBounds_toArray, List.set_cons_zero, List.set_cons_succ, i64_w, i32_w]
                  rfl
                refine pure_ (i := 19) (N := some 52) (v := ?_) (a' := ?_) #[true, false, true, true, true, true, false, false, true, false, true, true, true, true, false, false, true, false, true, true, false, false, false, false, false, false] rfl rfl (any_of HT_.out (by kernel_rfl)) (fun _ _ _ h => h) (Or.inl ⟨by rfl, ?_⟩) ?_ ?_
                rotate_left
                · intro w'
                  go_simp
                  with_reducible rfl
                rotate_left
                · simp only [Act.put, List.setIfInBounds_toArray, List.set_cons_zero, List.set_cons_succ, i64_w, i32_w]
                  rfl
                refine pure_ (i := 20) (N := some 53) (v := ?_) (a' := ?_) #[true, false, true, true, true, true, false, false, true, false, true, true, true, true, false, false, true, false, true, true, true, false, false, false, false, false] rfl rfl (any_of HT_.out (by kernel_rfl)) (fun _ _ _ h => h) (Or.inl ⟨by rfl, ?_⟩) ?_ ?_
                rotate_left
                · intro w'
                  go_simp
                  with_reducible rfl
                rotate_left
                · simp only [Act.put, List.setIfInBounds_toArray, List.set_cons_zero, List.set_cons_succ, i64_w, i32_w]
                  rfl
                refine pure_ (i := 21) (N := some 54) (v := ?_) (a' := ?_) #[true, false, true, true, true, true, false, false, true, false, true, true, true, true, false, false, true, false, true, true, true, true, false, false, false, false] rfl rfl (any_of HT_.out (by kernel_rfl)) (fun _ _ _ h => h) (Or.inl ⟨by rfl, ?_⟩) ?_ ?_
                rotate_left
                · intro w'
                  go_simp
                  with_reducible rfl
                rotate_left
                · simp only [Act.put, List.setIfInBounds_toArray, List.set_cons_zero, List.set_cons_succ, i64_w, i32_w]
                  rfl
                refine take_ (i := 1) (N := some 34) (v := ?_) (a' := ?_) #[true, true, true, true, true, true, false, false, true, false, true, true, true, true, false, false, true, false, true, true, true, true, false, false, false, false] rfl rfl (take_ofW HT_.out HW_.out (by kernel_rfl)) (fun _ _ _ h => h) (Or.inl ⟨by rfl, ?_⟩) hHeld ?_ ?_
                rotate_left
                · rintro w' ⟨s0, s1, s2, s3, s4, s5, s6, s7, s8, s9, s10, s11⟩
                  go_simp
                  with_reducible rfl
                rotate_left
                · simp only [Act.put, List.setIfInBounds_toArray, List.set_cons_zero, List.set_cons_succ, i64_w, i32_w]
                  rfl
                refine take_ (i := 6) (N := some 39) (v := ?_) (a' := ?_) #[true, true, true, true, true, true, true, false, true, false, true, true, true, true, false, false, true, false, true, true, true, true, false, false, false, false] rfl rfl (take_ofW HT_.out HW_.out (by kernel_rfl)) (fun _ _ _ h => h) (Or.inl ⟨by rfl, ?_⟩) hHeld ?_ ?_
                rotate_left
                · rintro w' ⟨s0, s1, s2, s3, s4, s5, s6, s7, s8, s9, s10, s11⟩
                  go_simp
                  with_reducible rfl
                rotate_left
                · simp only [Act.put, List.setIfInBounds_toArray, List.set_cons_zero, List.set_cons_succ, i64_w, i32_w]
                  rfl
                refine pure_ (i := 7) (N := some 40) (v := ?_) (a' := ?_) #[true, true, true, true, true, true, true, true, true, false, true, true, true, true, false, false, true, false, true, true, true, true, false, false, false, false] rfl rfl (any_of HT_.out (by kernel_rfl)) (fun _ _ _ h => h) (Or.inl ⟨by rfl, ?_⟩) ?_ ?_
                rotate_left
                · intro w'
                  go_simp
                  with_reducible rfl
                rotate_left
                · simp only [Act.put, List.setIfInBounds_toArray, List.set_cons_zero, List.set_cons_succ, i64_w, i32_w]
                  rfl
                refine take_ (i := 9) (N := some 42) (v := ?_) (a' := ?_) #[true, true, true, true, true, true, true, true, true, true, true, true, true, true, false, false, true, false, true, true, true, true, false, false, false, false] rfl rfl (take_ofW HT_.out HW_.out (by kernel_rfl)) (fun _ _ _ h => h) (Or.inl ⟨by rfl, ?_⟩) hHeld ?_ ?_
                rotate_left
                · rintro w' ⟨s0, s1, s2, s3, s4, s5, s6, s7, s8, s9, s10, s11⟩
                  go_simp
                  with_reducible rfl
                rotate_left
                · simp only [Act.put, List.setIfInBounds_toArray, List.set_cons_zero, List.set_cons_succ, i64_w, i32_w]
                  rfl
                refine take_ (i := 14) (N := some 47) (v := ?_) (a' := ?_) #[true, true, true, true, true, true, true, true, true, true, true, true, true, true, true, false, true, false, true, true, true, true, false, false, false, false] rfl rfl (take_ofW HT_.out HW_.out (by kernel_rfl)) (fun _ _ _ h => h) (Or.inl ⟨by rfl, ?_⟩) hHeld ?_ ?_
                rotate_left
                · rintro w' ⟨s0, s1, s2, s3, s4, s5, s6, s7, s8, s9, s10, s11⟩
                  go_simp
                  with_reducible rfl
                rotate_left
                · simp only [Act.put, List.setIfInBounds_toArray, List.set_cons_zero, List.set_cons_succ, i64_w, i32_w]
                  rfl
                refine pure_ (i := 15) (N := some 48) (v := ?_) (a' := ?_) #[true, true, true, true, true, true, true, true, true, true, true, true, true, true, true, true, true, false, true, true, true, true, false, false, false, false] rfl rfl (any_of HT_.out (by kernel_rfl)) (fun _ _ _ h => h) (Or.inl ⟨by rfl, ?_⟩) ?_ ?_
                rotate_left
                · intro w'
                  go_simp
                  with_reducible rfl
                rotate_left
                · simp only [Act.put, List.setIfInBounds_toArray, List.set_cons_zero, List.set_cons_succ, i64_w, i32_w]
                  rfl
                refine take_ (i := 17) (N := some 50) (v := ?_) (a' := ?_) #[true, true, true, true, true, true, true, true, true, true, true, true, true, true, true, true, true, true, true, true, true, true, false, false, false, false] rfl rfl (take_ofW HT_.out HW_.out (by kernel_rfl)) (fun _ _ _ h => h) (Or.inl ⟨by rfl, ?_⟩) hHeld ?_ ?_
                rotate_left
                · rintro w' ⟨s0, s1, s2, s3, s4, s5, s6, s7, s8, s9, s10, s11⟩
                  go_simp
                  with_reducible rfl
                rotate_left
                · simp only [Act.put, List.setIfInBounds_toArray, List.set_cons_zero, List.set_cons_succ, i64_w, i32_w]
                  rfl
                refine take_ (i := 22) (N := some 55) (v := ?_) (a' := ?_) #[true, true, true, true, true, true, true, true, true, true, true, true, true, true, true, true, true, true, true, true, true, true, true, false, false, false] rfl rfl (take_ofW HT_.out HW_.out (by kernel_rfl)) (fun _ _ _ h => h) (Or.inl ⟨by rfl, ?_⟩) hHeld ?_ ?_
                rotate_left
                · rintro w' ⟨s0, s1, s2, s3, s4, s5, s6, s7, s8, s9, s10, s11⟩
                  go_simp
                  with_reducible rfl
                rotate_left
                · simp only [Act.put, List.setIfInBounds_toArray, List.set_cons_zero, List.set_cons_succ, i64_w, i32_w]
                  rfl
                refine pure_ (i := 23) (N := some 56) (v := ?_) (a' := ?_) #[true, true, true, true, true, true, true, true, true, true, true, true, true, true, true, true, true, true, true, true, true, true, true, true, false, false] rfl rfl (any_of HT_.out (by kernel_rfl)) (fun _ _ _ h => h) (Or.inl ⟨by rfl, ?_⟩) ?_ ?_
                rotate_left
                · intro w'
                  go_simp
                  with_reducible rfl
                rotate_left
                · simp only [Act.put, List.setIfInBounds_toArray, List.set_cons_zero, List.set_cons_succ, i64_w, i32_w]
                  rfl
                refine pure_ (i := 24) (N := some 57) (v := ?_) (a' := ?_) #[true, true, true, true, true, true, true, true, true, true, true, true, true, true, true, true, true, true, true, true, true, true, true, true, true, false] rfl rfl (any_of HT_.out (by kernel_rfl)) (fun _ _ _ h => h) (Or.inl ⟨by rfl, ?_⟩) ?_ ?_
                rotate_left
                · intro w'
                  go_simp
                  with_reducible rfl
                rotate_left
                · simp only [Act.put, List.setIfInBounds_toArray, List.set_cons_zero, List.set_cons_succ, i64_w, i32_w]
                  rfl
                refine last_ (i := 25) (N := none) #[true, true, true, true, true, true, true, true, true, true, true, true, true, true, true, true, true, true, true, true, true, true, true, true, true, true] rfl rfl (one_of HT_.out (by kernel_rfl)) (by decide) (fun K hK => ?_)
                have hs34 : w33.cell? ⟨gb456, 0, none⟩ = some (.int .i64 x457000_1) := (blk_cell BK456.out 0).trans rfl
                have hfs34 := blk_frozen BK456.out 0
                have hns34_0 := NB451_456.out
                have hns34_1 := NB452_456.out
                have hns34_3 := NB457_456.out
                have hms34_0 := NB456_451.out
                have hms34_1 := NB456_452.out
                have hms34_3 := NB456_457.out
                have hs35 : w33.cell? ⟨gb456, 1, none⟩ = some (.int .i64 x457001_1) := (blk_cell BK456.out 1).trans rfl
                have hfs35 := blk_frozen BK456.out 1
                have hns35_0 := NB451_456.out
                have hns35_1 := NB452_456.out
                have hns35_3 := NB457_456.out
                have hms35_0 := NB456_451.out
                have hms35_1 := NB456_452.out
                have hms35_3 := NB456_457.out
                have hs36 : w33.cell? ⟨gb456, 2, none⟩ = some (.int .i64 x457002_1) := (blk_cell BK456.out 2).trans rfl
                have hfs36 := blk_frozen BK456.out 2
                have hns36_0 := NB451_456.out
                have hns36_1 := NB452_456.out
                have hns36_3 := NB457_456.out
                have hms36_0 := NB456_451.out
                have hms36_1 := NB456_452.out
                have hms36_3 := NB456_457.out
                refine skip_ (w1 := ?_) (by rfl) rfl ?_ ?_
                rotate_left
                · go_simp
                  rfl
                refine hK.out _ _ ?_
                clear hK K
                refine done_ (done_of HT_.out (by kernel_rfl)) ?_
                try go_wp2
                have n0_ : Aside0 ((((w33.setCell ⟨gb456, 0, none⟩ (.int .i64 ji27)).setCell ⟨gb456, 1, none⟩ (.int .i64 ji28)).setCell ⟨gb456, 2, none⟩ (.int .i64 ji29)).heap[gb451]? = some (.cells #[.int .i64 0, .int .i64 0, .int .i64 0] 30 (0, 0))) := ⟨by (with_reducible repeat (first | refine blk_drewN ?_ _ | refine blk_drew ?_ | refine blk_alloc ?_ _)); refine blk_far ?_ NB451_456.out _; (with_reducible repeat (first | refine blk_drewN ?_ _ | refine blk_drew ?_ | refine blk_alloc ?_ _)); refine blk_far ?_ NB451_456.out _; (with_reducible repeat (first | refine blk_drewN ?_ _ | refine blk_drew ?_ | refine blk_alloc ?_ _)); refine blk_far ?_ NB451_456.out _; (with_reducible repeat (first | refine blk_drewN ?_ _ | refine blk_drew ?_ | refine blk_alloc ?_ _)); exact BK451.out⟩
                have n1_ : Aside0 ((((w33.setCell ⟨gb456, 0, none⟩ (.int .i64 ji27)).setCell ⟨gb456, 1, none⟩ (.int .i64 ji28)).setCell ⟨gb456, 2, none⟩ (.int .i64 ji29)).heap[gb452]? = some (.cells #[.int .i64 0, .int .i64 0, .int .i64 0] 30 (0, 0))) := ⟨by (with_reducible repeat (first | refine blk_drewN ?_ _ | refine blk_drew ?_ | refine blk_alloc ?_ _)); refine blk_far ?_ NB452_456.out _; (with_reducible repeat (first | refine blk_drewN ?_ _ | refine blk_drew ?_ | refine blk_alloc ?_ _)); refine blk_far ?_ NB452_456.out _; (with_reducible repeat (first | refine blk_drewN ?_ _ | refine blk_drew ?_ | refine blk_alloc ?_ _)); refine blk_far ?_ NB452_456.out _; (with_reducible repeat (first | refine blk_drewN ?_ _ | refine blk_drew ?_ | refine blk_alloc ?_ _)); exact BK452.out⟩
                have n2_ : Aside0 ((((w33.setCell ⟨gb456, 0, none⟩ (.int .i64 ji27)).setCell ⟨gb456, 1, none⟩ (.int .i64 ji28)).setCell ⟨gb456, 2, none⟩ (.int .i64 ji29)).heap[gb456]? = some (.cells #[.int .i64 ji27, .int .i64 ji28, .int .i64 ji29] 30 (0, 0))) := ⟨by (with_reducible repeat (first | refine blk_drewN ?_ _ | refine blk_drew ?_ | refine blk_alloc ?_ _)); refine blk_put (cs := #[.int .i64 ji27, .int .i64 ji28, .int .i64 x457002_1]) ?_ 2 _ rfl; (with_reducible repeat (first | refine blk_drewN ?_ _ | refine blk_drew ?_ | refine blk_alloc ?_ _)); refine blk_put (cs := #[.int .i64 ji27, .int .i64 x457001_1, .int .i64 x457002_1]) ?_ 1 _ rfl; (with_reducible repeat (first | refine blk_drewN ?_ _ | refine blk_drew ?_ | refine blk_alloc ?_ _)); refine blk_put (cs := #[.int .i64 x457000_1, .int .i64 x457001_1, .int .i64 x457002_1]) ?_ 0 _ rfl; (with_reducible repeat (first | refine blk_drewN ?_ _ | refine blk_drew ?_ | refine blk_alloc ?_ _)); exact BK456.out⟩
                have n3_ : Aside0 ((((w33.setCell ⟨gb456, 0, none⟩ (.int .i64 ji27)).setCell ⟨gb456, 1, none⟩ (.int .i64 ji28)).setCell ⟨gb456, 2, none⟩ (.int .i64 ji29)).heap[gb457]? = some (.cells #[.int .i64 x458000_1, .int .i64 x458001_1, .int .i64 x458002_1] 30 (0, 0))) := ⟨by (with_reducible repeat (first | refine blk_drewN ?_ _ | refine blk_drew ?_ | refine blk_alloc ?_ _)); refine blk_far ?_ NB457_456.out _; (with_reducible repeat (first | refine blk_drewN ?_ _ | refine blk_drew ?_ | refine blk_alloc ?_ _)); refine blk_far ?_ NB457_456.out _; (with_reducible repeat (first | refine blk_drewN ?_ _ | refine blk_drew ?_ | refine blk_alloc ?_ _)); refine blk_far ?_ NB457_456.out _; (with_reducible repeat (first | refine blk_drewN ?_ _ | refine blk_drew ?_ | refine blk_alloc ?_ _)); exact BK457.out⟩
                have n4_ : Aside0 (Below w.heap.size w (((w33.setCell ⟨gb456, 0, none⟩ (.int .i64 ji27)).setCell ⟨gb456, 1, none⟩ (.int .i64 ji28)).setCell ⟨gb456, 2, none⟩ (.int .i64 ji29))) := ⟨by repeat (first | (with_reducible first | exact HB.out | apply below_alloc | apply pw_below_drewN | apply below_drew1 | refine below_set ?_ GE451.out | refine below_set ?_ GE452.out | refine below_set ?_ GE456.out | refine below_set ?_ GE457.out) | exact HB.out)⟩
                (try clear BK451)
                (try clear BK452)
                (try clear BK456)
                (try clear BK457)
                (try clear HB)
                generalize (((w33.setCell ⟨gb456, 0, none⟩ (.int .i64 ji27)).setCell ⟨gb456, 1, none⟩ (.int .i64 ji28)).setCell ⟨gb456, 2, none⟩ (.int .i64 ji29)) = w37 at n0_ n1_ n2_ n3_ n4_ ⊢
                have BK451 := n0_
                have BK452 := n1_
                have BK456 := n2_
                have BK457 := n3_
                have HB := n4_
                clear n0_ n1_ n2_ n3_ n4_
                have n0_ := Aside0.mk (blk_drew BK451.out)
                have n1_ := Aside0.mk (blk_drew BK452.out)
                have n2_ := Aside0.mk (blk_drew BK456.out)
                have n3_ := Aside0.mk (blk_drew BK457.out)
                have n4_ := Aside0.mk (below_drew1 HB.out)
                clear BK451
                clear BK452
                clear BK456
                clear BK457
                clear HB
                have BK451 := n0_
                have BK452 := n1_
                have BK456 := n2_
                have BK457 := n3_
                have HB := n4_
                clear n0_ n1_ n2_ n3_ n4_
                have p461 : 0 ≤ (x8_1 : Int) := of_decide_eq_true (by first | (with_reducible assumption) | assumption)
                have q461 : x8_1 < (l0.length : Int) := of_decide_eq_true (by first | (with_reducible assumption) | assumption)
                obtain ⟨ad461, e461, hx461_0, hx461_1, hx461_2⟩ := at_T30 HR0.out x8_1 p461 q461
                have hw461_2 := hx461_2
                have hw461_1 := hx461_1
                have hw461_0 := hx461_0
                obtain rfl : ad454 = ad461 := (by injection e461)
                replace hx461_0 := (HB.out.cell (World.block_lt_of_cell? w _ hx461_0)).trans hx461_0
                replace hx461_1 := (HB.out.cell (World.block_lt_of_cell? w _ hx461_1)).trans hx461_1
                replace hx461_2 := (HB.out.cell (World.block_lt_of_cell? w _ hx461_2)).trans hx461_2
                replace p461 := eq_true p461
                replace q461 := eq_true q461
                have p462 : 0 ≤ (x8_1 : Int) := of_decide_eq_true (by first | (with_reducible assumption) | assumption)
                have q462 : x8_1 < (l0.length : Int) := of_decide_eq_true (by first | (with_reducible assumption) | assumption)
                obtain ⟨ad462, e462, hx462_0, hx462_1, hx462_2⟩ := at_T30 HR0.out x8_1 p462 q462
                have hw462_2 := hx462_2
                have hw462_1 := hx462_1
                have hw462_0 := hx462_0
                obtain rfl : ad454 = ad462 := (by injection e462)
                replace hx462_0 := (HB.out.cell (World.block_lt_of_cell? w _ hx462_0)).trans hx462_0
                replace hx462_1 := (HB.out.cell (World.block_lt_of_cell? w _ hx462_1)).trans hx462_1
                replace hx462_2 := (HB.out.cell (World.block_lt_of_cell? w _ hx462_2)).trans hx462_2
                replace p462 := eq_true p462
                replace q462 := eq_true q462
                have p463 : 0 ≤ (x8_1 : Int) := of_decide_eq_true (by first | (with_reducible assumption) | assumption)
                have q463 : x8_1 < (l0.length : Int) := of_decide_eq_true (by first | (with_reducible assumption) | assumption)
                obtain ⟨ad463, e463, hx463_0, hx463_1, hx463_2⟩ := at_T30 HR0.out x8_1 p463 q463
                have hw463_2 := hx463_2
                have hw463_1 := hx463_1
                have hw463_0 := hx463_0
                obtain rfl : ad454 = ad463 := (by injection e463)
                replace hx463_0 := (HB.out.cell (World.block_lt_of_cell? w _ hx463_0)).trans hx463_0
                replace hx463_1 := (HB.out.cell (World.block_lt_of_cell? w _ hx463_1)).trans hx463_1
                replace hx463_2 := (HB.out.cell (World.block_lt_of_cell? w _ hx463_2)).trans hx463_2
                replace p463 := eq_true p463
                replace q463 := eq_true q463
                refine start_ (n := 26) (S := fun w' => w'.cell? ⟨gb457, 0, none⟩ = some (.int .i64 x458000_1) ∧ w'.cell? ⟨gb457, 1, none⟩ = some (.int .i64 x458001_1) ∧ w'.cell? ⟨gb457, 2, none⟩ = some (.int .i64 x458002_1) ∧ w'.cell? (ad454.add ((x8_1).toNat * 3)) = some (.int .i64 ((rd_T30 l0 x8_1).f0)) ∧ w'.cell? ⟨(ad454.add ((x8_1).toNat * 3)).block, (ad454.add ((x8_1).toNat * 3)).off + 1, none⟩ = some (.int .i64 ((rd_T30 l0 x8_1).f1)) ∧ w'.cell? ⟨(ad454.add ((x8_1).toNat * 3)).block, (ad454.add ((x8_1).toNat * 3)).off + 2, none⟩ = some (.int .i64 ((rd_T30 l0 x8_1).f2)) ∧ w'.cell? (ad454.add ((x8_1).toNat * 3)) = some (.int .i64 ((rd_T30 l0 x8_1).f0)) ∧ w'.cell? ⟨(ad454.add ((x8_1).toNat * 3)).block, (ad454.add ((x8_1).toNat * 3)).off + 1, none⟩ = some (.int .i64 ((rd_T30 l0 x8_1).f1)) ∧ w'.cell? ⟨(ad454.add ((x8_1).toNat * 3)).block, (ad454.add ((x8_1).toNat * 3)).off + 2, none⟩ = some (.int .i64 ((rd_T30 l0 x8_1).f2)) ∧ w'.cell? (ad454.add ((x8_1).toNat * 3)) = some (.int .i64 ((rd_T30 l0 x8_1).f0)) ∧ w'.cell? ⟨(ad454.add ((x8_1).toNat * 3)).block, (ad454.add ((x8_1).toNat * 3)).off + 1, none⟩ = some (.int .i64 ((rd_T30 l0 x8_1).f1)) ∧ w'.cell? ⟨(ad454.add ((x8_1).toNat * 3)).block, (ad454.add ((x8_1).toNat * 3)).off + 2, none⟩ = some (.int .i64 ((rd_T30 l0 x8_1).f2))) (ds := [25]) #[false, false, false, false, false, false, false, false, false, false, false, false, false, false, false, false, false, false, false, false, false, false, false, false, false, false] (by kernel_rfl) rfl rfl ⟨(blk_cell BK457.out 0).trans rfl, (blk_cell BK457.out 1).trans rfl, (blk_cell BK457.out 2).trans rfl, ((HB.out.cell (World.block_lt_of_cell? w _ hw461_0)).trans hw461_0), ((HB.out.cell (World.block_lt_of_cell? w _ hw461_1)).trans hw461_1), ((HB.out.cell (World.block_lt_of_cell? w _ hw461_2)).trans hw461_2), ((HB.out.cell (World.block_lt_of_cell? w _ hw462_0)).trans hw462_0), ((HB.out.cell (World.block_lt_of_cell? w _ hw462_1)).trans hw462_1), ((HB.out.cell (World.block_lt_of_cell? w _ hw462_2)).trans hw462_2), ((HB.out.cell (World.block_lt_of_cell? w _ hw463_0)).trans hw463_0), ((HB.out.cell (World.block_lt_of_cell? w _ hw463_1)).trans hw463_1), ((HB.out.cell (World.block_lt_of_cell? w _ hw463_2)).trans hw463_2)⟩ (fun hHeld => ?_); refine with_tabW metrolabref31_Box.tab11 metrolabref31_Box.bits11 (fun HT_ HW_ => ?_)
                generalize w37.drew = w38 at BK451 BK452 BK456 BK457 HB hx461_0 hx461_1 hx461_2 hx462_0 hx462_1 hx462_2 hx463_0 hx463_1 hx463_2 hHeld ⊢
                refine pure_ (i := 0) (N := some 58) (v := ?_) (a' := ?_) #[true, false, false, false, false, false, false, false, false, false, false, false, false, false, false, false, false, false, false, false, false, false, false, false, false, false] rfl rfl (any_of HT_.out (by kernel_rfl)) (fun _ _ _ h => h) (Or.inl ⟨by rfl, ?_⟩) ?_ ?_
                rotate_left
                · intro w'
                  go_simp
                  with_reducible rfl
                rotate_left
                · simp only [Act.put, List.setIfInBounds_toArray, List.set_cons_zero, List.set_cons_succ, i64_w, i32_w]
                  rfl
                refine pure_ (i := 2) (N := some 60) (v := ?_) (a' := ?_) #[true, false, true, false, false, false, false, false, false, false, false, false, false, false, false, false, false, false, false, false, false, false, false, false, false, false] rfl rfl (any_of HT_.out (by kernel_rfl)) (fun _ _ _ h => h) (Or.inl ⟨by rfl, ?_⟩) ?_ ?_
                rotate_left
                · intro w'
                  go_simp
                  with_reducible rfl
                rotate_left
                · simp only [Act.put, List.setIfInBounds_toArray, List.set_cons_zero, List.set_cons_succ, i64_w, i32_w]
                  rfl
                refine pure_ (i := 3) (N := some 61) (v := ?_) (a' := ?_) #[true, false, true, true, false, false, false, false, false, false, false, false, false, false, false, false, false, false, false, false, false, false, false, false, false, false] rfl rfl (any_of HT_.out (by kernel_rfl)) (fun _ _ _ h => h) (Or.inl ⟨by rfl, ?_⟩) ?_ ?_
                rotate_left
                · intro w'
                  go_simp
                  with_reducible rfl
                rotate_left
                · simp only [Act.put, List.setIfInBounds_toArray, List.set_cons_zero, List.set_cons_succ, i64_w, i32_w]
                  rfl
                refine pure_ (i := 4) (N := some 62) (v := ?_) (a' := ?_) #[true, false, true, true, true, false, false, false, false, false, false, false, false, false, false, false, false, false, false, false, false, false, false, false, false, false] rfl rfl (any_of HT_.out (by kernel_rfl)) (fun _ _ _ h => h) (Or.inl ⟨by rfl, ?_⟩) ?_ ?_
                rotate_left
                · intro w'
                  go_simp
                  with_reducible rfl
                rotate_left
                · simp only [Act.put, List.setIfInBounds_toArray, List.set_cons_zero, List.set_cons_succ, i64_w, i32_w]
                  rfl
                refine pure_ (i := 5) (N := some 63) (v := ?_) (a' := ?_) #[true, false, true, true, true, true, false, false, false, false, false, false, false, false, false, false, false, false, false, false, false, false, false, false, false, false] rfl rfl (any_of HT_.out (by kernel_rfl)) (fun _ _ _ h => h) (Or.inl ⟨by rfl, ?_⟩) ?_ ?_
                rotate_left
                · intro w'
                  go_simp
                  with_reducible rfl
                rotate_left
                · simp only [Act.put, List.setIfInBounds_toArray, List.set_cons_zero, List.set_cons_succ, i64_w, i32_w]
                  rfl
                refine pure_ (i := 8) (N := some 66) (v := ?_) (a' := ?_) #[true, false, true, true, true, true, false, false, true, false, false, false, false, false, false, false, false, false, false, false, false, false, false, false, false, false] rfl rfl (any_of HT_.out (by kernel_rfl)) (fun _ _ _ h => h) (Or.inl ⟨by rfl, ?_⟩) ?_ ?_
                rotate_left
                · intro w'
                  go_simp
                  with_reducible rfl
                rotate_left
                · simp only [Act.put, List.setIfInBounds_toArray, List.set_cons_zero, List.set_cons_succ, i64_w, i32_w]
                  rfl
                refine pure_ (i := 10) (N := some 68) (v := ?_) (a' := ?_) #[true, false, true, true, true, true, false, false, true, false, true, false, false, false, false, false, false, false, false, false, false, false, false, false, false, false] rfl rfl (any_of HT_.out (by kernel_rfl)) (fun _ _ _ h => h) (Or.inl ⟨by rfl, ?_⟩) ?_ ?_
                rotate_left
                · intro w'
                  go_simp
                  with_reducible rfl
                rotate_left
                · simp only [Act.put, List.setIfInBounds_toArray, List.set_cons_zero, List.set_cons_succ, i64_w, i32_w]
                  rfl
                refine pure_ (i := 11) (N := some 69) (v := ?_) (a' := ?_) #[true, false, true, true, true, true, false, false, true, false, true, true, false, false, false, false, false, false, false, false, false, false, false, false, false, false] rfl rfl (any_of HT_.out (by kernel_rfl)) (fun _ _ _ h => h) (Or.inl ⟨by rfl, ?_⟩) ?_ ?_
                rotate_left
                · intro w'
                  go_simp
                  with_reducible rfl
                rotate_left
                · simp only [Act.put, List.setIfInBounds_toArray, List.set_cons_zero, List.set_cons_succ, i64_w, i32_w]
                  rfl
                refine pure_ (i := 12) (N := some 70) (v := ?_) (a' := ?_) #[true, false, true, true, true, true, false, false, true, false, true, true, true, false, false, false, false, false, false, false, false, false, false, false, false, false] rfl rfl (any_of HT_.out (by kernel_rfl)) (fun _ _ _ h => h) (Or.inl ⟨by rfl, ?_⟩) ?_ ?_
                rotate_left
                · intro w'
                  go_simp
                  with_reducible rfl
                rotate_left
                · simp only [Act.put, List.setIfInBounds_toArray, List.set_cons_zero, List.set_cons_succ, i64_w, i32_w]
                  rfl
                refine pure_ (i := 13) (N := some 71) (v := ?_) (a' := ?_) #[true, false, true, true, true, true, false, false, true, false, true, true, true, true, false, false, false, false, false, false, false, false, false, false, false, false] rfl rfl (any_of HT_.out (by kernel_rfl)) (fun _ _ _ h => h) (Or.inl ⟨by rfl, ?_⟩) ?_ ?_
                rotate_left
                · intro w'
                  go_simp
                  with_reducible rfl
                rotate_left
                · simp only [Act.put, List.setIfInBounds_toArray, List.set_cons_zero, List.set_cons_succ, i64_w, i32_w]
                  rfl
                refine pure_ (i := 16) (N := some 74) (v := ?_) (a' := ?_) #[true, false, true, true, true, true, false, false, true, false, true, true, true, true, false, false, true, false, false, false, false, false, false, false, false, false] rfl rfl (any_of HT_.out (by kernel_rfl)) (fun _ _ _ h => h) (Or.inl ⟨by rfl, ?_⟩) ?_ ?_
                rotate_left
                · intro w'
                  go_simp
                  with_reducible rfl
                rotate_left
                · simp only [Act.put, List.setIfInBounds_toArray, List.set_cons_zero, List.set_cons_succ, i64_w, i32_w]
                  rfl
                refine pure_ (i := 18) (N := some 76) (v := ?_) (a' := ?_) #[true, false, true, true, true, true, false, false, true, false, true, true, true, true, false, false, true, false, true, false, false, false, false, false, false, false] rfl rfl (any_of HT_.out (by kernel_rfl)) (fun _ _ _ h => h) (Or.inl ⟨by rfl, ?_⟩) ?_ ?_
                rotate_left
                · intro w'
                  go_simp
                  with_reducible rfl
                rotate_left
                · simp only [Act.put, List.setIfInBounds_toArray, List.set_cons_zero, List.set_cons_succ, i64_w, i32_w]
                  rfl
                refine pure_ (i := 19) (N := some 77) (v := ?_) (a' := ?_) #[true, false, true, true, true, true, false, false, true, false, true, true, true, true, false, false, true, false, true, true, false, false, false, false, false, false] rfl rfl (any_of HT_.out (by kernel_rfl)) (fun _ _ _ h => h) (Or.inl ⟨by rfl, ?_⟩) ?_ ?_
                rotate_left
                · intro w'
                  go_simp
                  with_reducible rfl
                rotate_left
                · simp only [Act.put, List.setIfInBounds_toArray, List.set_cons_zero, List.set_cons_succ, i64_w, i32_w]
                  rfl
                refine pure_ (i := 20) (N := some 78) (v := ?_) (a' := ?_) #[true, false, true, true, true, true, false, false, true, false, true, true, true, true, false, false, true, false, true, true, true, false, false, false, false, false] rfl rfl (any_of HT_.out (by kernel_rfl)) (fun _ _ _ h => h) (Or.inl ⟨by rfl, ?_⟩) ?_ ?_
                rotate_left
                · intro w'
                  go_simp
                  with_reducible rfl
                rotate_left
                · simp only [Act.put, List.setIfInBounds_toArray, List.set_cons_zero, List.set_cons_succ, i64_w, i32_w]
                  rfl
                refine pure_ (i := 21) (N := some 79) (v := ?_) (a' := ?_) #[true, false, true, true, true, true, false, false, true, false, true, true, true, true, false, false, true, false, true, true, true, true, false, false, false, false] rfl rfl (any_of HT_.out (by kernel_rfl)) (fun _ _ _ h => h) (Or.inl ⟨by rfl, ?_⟩) ?_ ?_
                rotate_left
                · intro w'
                  go_simp
                  with_reducible rfl
                rotate_left
                · simp only [Act.put, List.setIfInBounds_toArray, List.set_cons_zero, List.set_cons_succ, i64_w, i32_w]
                  rfl
                refine take_ (i := 1) (N := some 59) (v := ?_) (a' := ?_) #[true, true, true, true, true, true, false, false, true, false, true, true, true, true, false, false, true, false, true, true, true, true, false, false, false, false] rfl rfl (take_ofW HT_.out HW_.out (by kernel_rfl)) (fun _ _ _ h => h) (Or.inl ⟨by rfl, ?_⟩) hHeld ?_ ?_
                rotate_left
                · rintro w' ⟨s0, s1, s2, s3, s4, s5, s6, s7, s8, s9, s10, s11⟩
                  go_simp
                  with_reducible rfl
                rotate_left
                · simp only [Act.put, List.setIfInBounds_toArray, List.set_cons_zero, List.set_cons_succ, i64_w, i32_w]
                  rfl
                refine take_ (i := 6) (N := some 64) (v := ?_) (a' := ?_) #[true, true, true, true, true, true, true, false, true, false, true, true, true, true, false, false, true, false, true, true, true, true, false, false, false, false] rfl rfl (take_ofW HT_.out HW_.out (by kernel_rfl)) (fun _ _ _ h => h) (Or.inl ⟨by rfl, ?_⟩) hHeld ?_ ?_
                rotate_left
                · rintro w' ⟨s0, s1, s2, s3, s4, s5, s6, s7, s8, s9, s10, s11⟩
                  go_simp
                  with_reducible rfl
                rotate_left
                · simp only [Act.put, List.setIfInBounds_toArray, List.set_cons_zero, List.set_cons_succ, i64_w, i32_w]
                  rfl
                refine pure_ (i := 7) (N := some 65) (v := ?_) (a' := ?_) #[true, true, true, true, true, true, true, true, true, false, true, true, true, true, false, false, true, false, true, true, true, true, false, false, false, false] rfl rfl (any_of HT_.out (by kernel_rfl)) (fun _ _ _ h => h) (Or.inl ⟨by rfl, ?_⟩) ?_ ?_
                rotate_left
                · intro w'
                  go_simp
                  with_reducible rfl
                rotate_left
                · simp only [Act.put, List.setIfInBounds_toArray, List.set_cons_zero, List.set_cons_succ, i64_w, i32_w]
                  rfl
                refine take_ (i := 9) (N := some 67) (v := ?_) (a' := ?_) #[true, true, true, true, true, true, true, true, true, true, true, true, true, true, false, false, true, false, true, true, true, true, false, false, false, false] rfl rfl (take_ofW HT_.out HW_.out (by kernel_rfl)) (fun _ _ _ h => h) (Or.inl ⟨by rfl, ?_⟩) hHeld ?_ ?_
                rotate_left
                · rintro w' ⟨s0, s1, s2, s3, s4, s5, s6, s7, s8, s9, s10, s11⟩
                  go_simp
                  with_reducible rfl
                rotate_left
                · simp only [Act.put, List.setIfInBounds_toArray, List.set_cons_zero, List.set_cons_succ, i64_w, i32_w]
                  rfl
                refine take_ (i := 14) (N := some 72) (v := ?_) (a' := ?_) #[true, true, true, true, true, true, true, true, true, true, true, true, true, true, true, false, true, false, true, true, true, true, false, false, false, false] rfl rfl (take_ofW HT_.out HW_.out (by kernel_rfl)) (fun _ _ _ h => h) (Or.inl ⟨by rfl, ?_⟩) hHeld ?_ ?_
                rotate_left
                · rintro w' ⟨s0, s1, s2, s3, s4, s5, s6, s7, s8, s9, s10, s11⟩
                  go_simp
                  with_reducible rfl
                rotate_left
                · simp only [Act.put, List.setIfInBounds_toArray, List.set_cons_zero, List.set_cons_succ, i64_w, i32_w]
                  rfl
                refine pure_ (i := 15) (N := some 73) (v := ?_) (a' := ?_) #[true, true, true, true, true, true, true, true, true, true, true, true, true, true, true, true, true, false, true, true, true, true, false, false, false, false] rfl rfl (any_of HT_.out (by kernel_rfl)) (fun _ _ _ h => h) (Or.inl ⟨by rfl, ?_⟩) ?_ ?_
                rotate_left
                · intro w'
                  go_simp
                  with_reducible rfl
                rotate_left
                · simp only [Act.put, List.setIfInBounds_toArray, List.set_cons_zero, List.set_cons_succ, i64_w, i32_w]
                  rfl
                refine take_ (i := 17) (N := some 75) (v := ?_) (a' := ?_) #[true, true, true, true, true, true, true, true, true, true, true, true, true, true, true, true, true, true, true, true, true, true, false, false, false, false] rfl rfl (take_ofW HT_.out HW_.out (by kernel_rfl)) (fun _ _ _ h => h) (Or.inl ⟨by rfl, ?_⟩) hHeld ?_ ?_
                rotate_left
                · rintro w' ⟨s0, s1, s2, s3, s4, s5, s6, s7, s8, s9, s10, s11⟩
                  go_simp
                  with_reducible rfl
                rotate_left
                · simp only [Act.put, List.setIfInBounds_toArray, List.set_cons_zero, List.set_cons_succ, i64_w, i32_w]
                  rfl
                refine take_ (i := 22) (N := some 80) (v := ?_) (a' := ?_) #[true, true, true, true, true, true, true, true, true, true, true, true, true, true, true, true, true, true, true, true, true, true, true, false, false, false] rfl rfl (take_ofW HT_.out HW_.out (by kernel_rfl)) (fun _ _ _ h => h) (Or.inl ⟨by rfl, ?_⟩) hHeld ?_ ?_
                rotate_left
                · rintro w' ⟨s0, s1, s2, s3, s4, s5, s6, s7, s8, s9, s10, s11⟩
                  go_simp
                  with_reducible rfl
                rotate_left
                · simp only [Act.put, List.setIfInBounds_toArray, List.set_cons_zero, List.set_cons_succ, i64_w, i32_w]
                  rfl
                refine pure_ (i := 23) (N := some 81) (v := ?_) (a' := ?_) #[true, true, true, true, true, true, true, true, true, true, true, true, true, true, true, true, true, true, true, true, true, true, true, true, false, false] rfl rfl (any_of HT_.out (by kernel_rfl)) (fun _ _ _ h => h) (Or.inl ⟨by rfl, ?_⟩) ?_ ?_
                rotate_left
                · intro w'
                  go_simp
                  with_reducible rfl
                rotate_left
                · simp only [Act.put, List.setIfInBounds_toArray, List.set_cons_zero, List.set_cons_succ, i64_w, i32_w]
                  rfl
                refine pure_ (i := 24) (N := some 82) (v := ?_) (a' := ?_) #[true, true, true, true, true, true, true, true, true, true, true, true, true, true, true, true, true, true, true, true, true, true, true, true, true, false] rfl rfl (any_of HT_.out (by kernel_rfl)) (fun _ _ _ h => h) (Or.inl ⟨by rfl, ?_⟩) ?_ ?_
                rotate_left
                · intro w'
                  go_simp
                  with_reducible rfl
                rotate_left
                · simp only [Act.put, List.setIfInBounds_toArray, List.set_cons_zero, List.set_cons_succ, i64_w, i32_w]
                  rfl
                refine last_ (i := 25) (N := none) #[true, true, true, true, true, true, true, true, true, true, true, true, true, true, true, true, true, true, true, true, true, true, true, true, true, true] rfl rfl (one_of HT_.out (by kernel_rfl)) (by decide) (fun K hK => ?_)
                have hs39 : w38.cell? ⟨gb457, 0, none⟩ = some (.int .i64 x458000_1) := (blk_cell BK457.out 0).trans rfl
                have hfs39 := blk_frozen BK457.out 0
                have hns39_0 := NB451_457.out
                have hns39_1 := NB452_457.out
                have hns39_2 := NB456_457.out
                have hms39_0 := NB457_451.out
                have hms39_1 := NB457_452.out
                have hms39_2 := NB457_456.out
                have hs40 : w38.cell? ⟨gb457, 1, none⟩ = some (.int .i64 x458001_1) := (blk_cell BK457.out 1).trans rfl
                have hfs40 := blk_frozen BK457.out 1
                have hns40_0 := NB451_457.out
                have hns40_1 := NB452_457.out
                have hns40_2 := NB456_457.out
                have hms40_0 := NB457_451.out
                have hms40_1 := NB457_452.out
                have hms40_2 := NB457_456.out
                have hs41 : w38.cell? ⟨gb457, 2, none⟩ = some (.int .i64 x458002_1) := (blk_cell BK457.out 2).trans rfl
                have hfs41 := blk_frozen BK457.out 2
                have hns41_0 := NB451_457.out
                have hns41_1 := NB452_457.out
                have hns41_2 := NB456_457.out
                have hms41_0 := NB457_451.out
                have hms41_1 := NB457_452.out
                have hms41_2 := NB457_456.out
                refine skip_ (w1 := ?_) (by rfl) rfl ?_ ?_
                rotate_left
                · go_simp
                  rfl
                refine hK.out _ _ ?_
                clear hK K
                refine done_ (done_of HT_.out (by kernel_rfl)) ?_
                try go_wp2
                go_roundg k1
                case measure => have := HK1.out; omega
                case rel => exact ⟨(wrap64 (x8_1 + 1)), (ji27), (ji28), (ji29), (ji30), (ji31), (ji32), (by first | rfl | (simp; done) | (simp [*]; done)), H', ⟨by have := HK1.out; omega⟩, ⟨by (with_reducible repeat (first | refine blk_drewN ?_ _ | refine blk_drew ?_ | refine blk_alloc ?_ _)); refine blk_far ?_ NB451_457.out _; (with_reducible repeat (first | refine blk_drewN ?_ _ | refine blk_drew ?_ | refine blk_alloc ?_ _)); refine blk_far ?_ NB451_457.out _; (with_reducible repeat (first | refine blk_drewN ?_ _ | refine blk_drew ?_ | refine blk_alloc ?_ _)); refine blk_far ?_ NB451_457.out _; (with_reducible repeat (first | refine blk_drewN ?_ _ | refine blk_drew ?_ | refine blk_alloc ?_ _)); exact BK451.out⟩, ⟨by (with_reducible repeat (first | refine blk_drewN ?_ _ | refine blk_drew ?_ | refine blk_alloc ?_ _)); refine blk_far ?_ NB452_457.out _; (with_reducible repeat (first | refine blk_drewN ?_ _ | refine blk_drew ?_ | refine blk_alloc ?_ _)); refine blk_far ?_ NB452_457.out _; (with_reducible repeat (first | refine blk_drewN ?_ _ | refine blk_drew ?_ | refine blk_alloc ?_ _)); refine blk_far ?_ NB452_457.out _; (with_reducible repeat (first | refine blk_drewN ?_ _ | refine blk_drew ?_ | refine blk_alloc ?_ _)); exact BK452.out⟩, ⟨by (with_reducible repeat (first | refine blk_drewN ?_ _ | refine blk_drew ?_ | refine blk_alloc ?_ _)); refine blk_far ?_ NB456_457.out _; (with_reducible repeat (first | refine blk_drewN ?_ _ | refine blk_drew ?_ | refine blk_alloc ?_ _)); refine blk_far ?_ NB456_457.out _; (with_reducible repeat (first | refine blk_drewN ?_ _ | refine blk_drew ?_ | refine blk_alloc ?_ _)); refine blk_far ?_ NB456_457.out _; (with_reducible repeat (first | refine blk_drewN ?_ _ | refine blk_drew ?_ | refine blk_alloc ?_ _)); exact BK456.out⟩, ⟨by (with_reducible repeat (first | refine blk_drewN ?_ _ | refine blk_drew ?_ | refine blk_alloc ?_ _)); refine blk_put (cs := #[.int .i64 ji30, .int .i64 ji31, .int .i64 x458002_1]) ?_ 2 _ rfl; (with_reducible repeat (first | refine blk_drewN ?_ _ | refine blk_drew ?_ | refine blk_alloc ?_ _)); refine blk_put (cs := #[.int .i64 ji30, .int .i64 x458001_1, .int .i64 x458002_1]) ?_ 1 _ rfl; (with_reducible repeat (first | refine blk_drewN ?_ _ | refine blk_drew ?_ | refine blk_alloc ?_ _)); refine blk_put (cs := #[.int .i64 x458000_1, .int .i64 x458001_1, .int .i64 x458002_1]) ?_ 0 _ rfl; (with_reducible repeat (first | refine blk_drewN ?_ _ | refine blk_drew ?_ | refine blk_alloc ?_ _)); exact BK457.out⟩, ⟨by repeat (first | (with_reducible first | exact HB.out | apply below_alloc | apply pw_below_drewN | apply below_drew1 | refine below_set ?_ GE451.out | refine below_set ?_ GE452.out | refine below_set ?_ GE456.out | refine below_set ?_ GE457.out) | exact HB.out)⟩⟩
              · rw [if_neg c26] at H
                exact absurd H (by simp)
            · rw [if_neg c25] at H
              have c25b0 : decide (x8_1 < (l0.length : Int)) = false := decide_eq_false c25
              clear c25
              simp only [Option.some.injEq, Prod.mk.injEq] at H
              obtain ⟨rfl, rfl, rfl, rfl, rfl, rfl, rfl⟩ := H
              try go_wp2
              have n0_ := Aside0.mk (blk_drew BK451.out)
              have n1_ := Aside0.mk (blk_drew BK452.out)
              have n2_ := Aside0.mk (blk_drew BK456.out)
              have n3_ := Aside0.mk (blk_drew BK457.out)
              have n4_ := Aside0.mk (below_drew1 HB.out)
              clear BK451
              clear BK452
              clear BK456
              clear BK457
              clear HB
              have BK451 := n0_
              have BK452 := n1_
              have BK456 := n2_
              have BK457 := n3_
              have HB := n4_
              clear n0_ n1_ n2_ n3_ n4_
              refine start_ (n := 5) (S := fun w' => w'.cell? ⟨gb456, 0, none⟩ = some (.int .i64 x457000_1) ∧ w'.cell? ⟨gb456, 1, none⟩ = some (.int .i64 x457001_1) ∧ w'.cell? ⟨gb456, 2, none⟩ = some (.int .i64 x457002_1) ∧ w'.cell? ⟨gb457, 0, none⟩ = some (.int .i64 x458000_1) ∧ w'.cell? ⟨gb457, 1, none⟩ = some (.int .i64 x458001_1) ∧ w'.cell? ⟨gb457, 2, none⟩ = some (.int .i64 x458002_1)) (ds := []) #[false, false, false, false, false] (by kernel_rfl) rfl rfl ⟨(blk_cell BK456.out 0).trans rfl, (blk_cell BK456.out 1).trans rfl, (blk_cell BK456.out 2).trans rfl, (blk_cell BK457.out 0).trans rfl, (blk_cell BK457.out 1).trans rfl, (blk_cell BK457.out 2).trans rfl⟩ (fun hHeld => ?_)
              generalize wr.drew = w42 at BK451 BK452 BK456 BK457 HB hHeld ⊢
              refine take_ (i := 0) (N := some 83) (v := ?_) (a' := ?_) #[true, false, false, false, false] rfl rfl (by kernel_rfl) (fun _ _ _ h => h) (Or.inl ⟨by rfl, ?_⟩) hHeld ?_ ?_
              rotate_left
              · rintro w' ⟨s0, s1, s2, s3, s4, s5⟩
                go_simp
                with_reducible rfl
              rotate_left
              · simp only [Act.put, List.setIfInBounds_toArray, List.set_cons_zero, List.set_cons_succ, i64_w, i32_w]
                rfl
              refine take_ (i := 1) (N := some 84) (v := ?_) (a' := ?_) #[true, true, false, false, false] rfl rfl (by kernel_rfl) (fun _ _ _ h => h) (Or.inl ⟨by rfl, ?_⟩) hHeld ?_ ?_
              rotate_left
              · rintro w' ⟨s0, s1, s2, s3, s4, s5⟩
                go_simp
                with_reducible rfl
              rotate_left
              · simp only [Act.put, List.setIfInBounds_toArray, List.set_cons_zero, List.set_cons_succ, i64_w, i32_w]
                rfl
              refine one_ (i := 2) (N := none) #[true, true, true, false, false] rfl rfl (by kernel_rfl) (by decide) (fun K hK => ?_)
              have hs43 : w42.cell? ⟨gb451, 0, none⟩ = some (.int .i64 0) := (blk_cell BK451.out 0).trans rfl
              have hfs43 := blk_frozen BK451.out 0
              have hns43_1 := NB452_451.out
              have hns43_2 := NB456_451.out
              have hns43_3 := NB457_451.out
              have hms43_1 := NB451_452.out
              have hms43_2 := NB451_456.out
              have hms43_3 := NB451_457.out
              have hs44 : w42.cell? ⟨gb451, 1, none⟩ = some (.int .i64 0) := (blk_cell BK451.out 1).trans rfl
              have hfs44 := blk_frozen BK451.out 1
              have hns44_1 := NB452_451.out
              have hns44_2 := NB456_451.out
              have hns44_3 := NB457_451.out
              have hms44_1 := NB451_452.out
              have hms44_2 := NB451_456.out
              have hms44_3 := NB451_457.out
              have hs45 : w42.cell? ⟨gb451, 2, none⟩ = some (.int .i64 0) := (blk_cell BK451.out 2).trans rfl
              have hfs45 := blk_frozen BK451.out 2
              have hns45_1 := NB452_451.out
              have hns45_2 := NB456_451.out
              have hns45_3 := NB457_451.out
              have hms45_1 := NB451_452.out
              have hms45_2 := NB451_456.out
              have hms45_3 := NB451_457.out
              refine skip_ (w1 := ?_) (by rfl) rfl ?_ ?_
              rotate_left
              · go_simp
                rfl
              refine hK.out _ _ ⟨((cell_far (p := ⟨gb451, _, none⟩) NB456_451.out _).trans (((cell_far (p := ⟨gb451, _, none⟩) NB456_451.out _).trans (((cell_far (p := ⟨gb451, _, none⟩) NB456_451.out _).trans (hHeld.1)))))), ((cell_far (p := ⟨gb451, _, none⟩) NB456_451.out _).trans (((cell_far (p := ⟨gb451, _, none⟩) NB456_451.out _).trans (((cell_far (p := ⟨gb451, _, none⟩) NB456_451.out _).trans (hHeld.2.1)))))), ((cell_far (p := ⟨gb451, _, none⟩) NB456_451.out _).trans (((cell_far (p := ⟨gb451, _, none⟩) NB456_451.out _).trans (((cell_far (p := ⟨gb451, _, none⟩) NB456_451.out _).trans (hHeld.2.2.1)))))), ((cell_far (p := ⟨gb451, _, none⟩) NB457_451.out _).trans (((cell_far (p := ⟨gb451, _, none⟩) NB457_451.out _).trans (((cell_far (p := ⟨gb451, _, none⟩) NB457_451.out _).trans (hHeld.2.2.2.1)))))), ((cell_far (p := ⟨gb451, _, none⟩) NB457_451.out _).trans (((cell_far (p := ⟨gb451, _, none⟩) NB457_451.out _).trans (((cell_far (p := ⟨gb451, _, none⟩) NB457_451.out _).trans (hHeld.2.2.2.2.1)))))), ((cell_far (p := ⟨gb451, _, none⟩) NB457_451.out _).trans (((cell_far (p := ⟨gb451, _, none⟩) NB457_451.out _).trans (((cell_far (p := ⟨gb451, _, none⟩) NB457_451.out _).trans (hHeld.2.2.2.2.2))))))⟩ (fun hHeld => ?_)
              clear hK K
              refine one_ (i := 3) (N := none) #[true, true, true, true, false] rfl rfl (by kernel_rfl) (by decide) (fun K hK => ?_)
              have hs46 : w42.cell? ⟨gb452, 0, none⟩ = some (.int .i64 0) := (blk_cell BK452.out 0).trans rfl
              have hfs46 := blk_frozen BK452.out 0
              have hns46_0 := NB451_452.out
              have hns46_2 := NB456_452.out
              have hns46_3 := NB457_452.out
              have hms46_0 := NB452_451.out
              have hms46_2 := NB452_456.out
              have hms46_3 := NB452_457.out
              have hs47 : w42.cell? ⟨gb452, 1, none⟩ = some (.int .i64 0) := (blk_cell BK452.out 1).trans rfl
              have hfs47 := blk_frozen BK452.out 1
              have hns47_0 := NB451_452.out
              have hns47_2 := NB456_452.out
              have hns47_3 := NB457_452.out
              have hms47_0 := NB452_451.out
              have hms47_2 := NB452_456.out
              have hms47_3 := NB452_457.out
              have hs48 : w42.cell? ⟨gb452, 2, none⟩ = some (.int .i64 0) := (blk_cell BK452.out 2).trans rfl
              have hfs48 := blk_frozen BK452.out 2
              have hns48_0 := NB451_452.out
              have hns48_2 := NB456_452.out
              have hns48_3 := NB457_452.out
              have hms48_0 := NB452_451.out
              have hms48_2 := NB452_456.out
              have hms48_3 := NB452_457.out
              refine skip_ (w1 := ?_) (by rfl) rfl ?_ ?_
              rotate_left
              · go_simp
                rfl
              refine hK.out _ _ ⟨((cell_far (p := ⟨gb452, _, none⟩) NB456_452.out _).trans (((cell_far (p := ⟨gb452, _, none⟩) NB456_452.out _).trans (((cell_far (p := ⟨gb452, _, none⟩) NB456_452.out _).trans (hHeld.1)))))), ((cell_far (p := ⟨gb452, _, none⟩) NB456_452.out _).trans (((cell_far (p := ⟨gb452, _, none⟩) NB456_452.out _).trans (((cell_far (p := ⟨gb452, _, none⟩) NB456_452.out _).trans (hHeld.2.1)))))), ((cell_far (p := ⟨gb452, _, none⟩) NB456_452.out _).trans (((cell_far (p := ⟨gb452, _, none⟩) NB456_452.out _).trans (((cell_far (p := ⟨gb452, _, none⟩) NB456_452.out _).trans (hHeld.2.2.1)))))), ((cell_far (p := ⟨gb452, _, none⟩) NB457_452.out _).trans (((cell_far (p := ⟨gb452, _, none⟩) NB457_452.out _).trans (((cell_far (p := ⟨gb452, _, none⟩) NB457_452.out _).trans (hHeld.2.2.2.1)))))), ((cell_far (p := ⟨gb452, _, none⟩) NB457_452.out _).trans (((cell_far (p := ⟨gb452, _, none⟩) NB457_452.out _).trans (((cell_far (p := ⟨gb452, _, none⟩) NB457_452.out _).trans (hHeld.2.2.2.2.1)))))), ((cell_far (p := ⟨gb452, _, none⟩) NB457_452.out _).trans (((cell_far (p := ⟨gb452, _, none⟩) NB457_452.out _).trans (((cell_far (p := ⟨gb452, _, none⟩) NB457_452.out _).trans (hHeld.2.2.2.2.2))))))⟩ (fun hHeld => ?_)
              clear hK K
              refine pure_ (i := 4) (N := some 4) (v := ?_) (a' := ?_) #[true, true, true, true, true] rfl rfl (by kernel_rfl) (fun _ _ _ h => h) (Or.inl ⟨by rfl, ?_⟩) ?_ ?_
              rotate_left
              · intro w'
                go_simp
                with_reducible rfl
              rotate_left
              · simp only [Act.put, List.setIfInBounds_toArray, List.set_cons_zero, List.set_cons_succ, i64_w, i32_w]
                rfl
              refine done_ (by kernel_rfl) ?_
              try go_wp2
              refine bodyPost_ret (results_list (rs := [.cell 2 30, .cell 3 30, .tmp 4]) rfl (by simp) (.cell gb451 30 #[.int .i64 x457000_1, .int .i64 x457001_1, .int .i64 x457002_1] (0, 0) _ rfl (by (with_reducible repeat (first | refine blk_drewN ?_ _ | refine blk_drew ?_ | refine blk_alloc ?_ _)); refine blk_far ?_ NB451_452.out _; (with_reducible repeat (first | refine blk_drewN ?_ _ | refine blk_drew ?_ | refine blk_alloc ?_ _)); refine blk_far ?_ NB451_452.out _; (with_reducible repeat (first | refine blk_drewN ?_ _ | refine blk_drew ?_ | refine blk_alloc ?_ _)); refine blk_far ?_ NB451_452.out _; (with_reducible repeat (first | refine blk_drewN ?_ _ | refine blk_drew ?_ | refine blk_alloc ?_ _)); refine blk_put (cs := #[.int .i64 x457000_1, .int .i64 x457001_1, .int .i64 0]) ?_ 2 _ rfl; (with_reducible repeat (first | refine blk_drewN ?_ _ | refine blk_drew ?_ | refine blk_alloc ?_ _)); refine blk_put (cs := #[.int .i64 x457000_1, .int .i64 0, .int .i64 0]) ?_ 1 _ rfl; (with_reducible repeat (first | refine blk_drewN ?_ _ | refine blk_drew ?_ | refine blk_alloc ?_ _)); refine blk_put (cs := #[.int .i64 0, .int .i64 0, .int .i64 0]) ?_ 0 _ rfl; (with_reducible repeat (first | refine blk_drewN ?_ _ | refine blk_drew ?_ | refine blk_alloc ?_ _)); exact BK451.out) Try.underlying30 rfl (by kernel_rfl) (.cell gb452 30 #[.int .i64 x458000_1, .int .i64 x458001_1, .int .i64 x458002_1] (0, 0) _ rfl (by (with_reducible repeat (first | refine blk_drewN ?_ _ | refine blk_drew ?_ | refine blk_alloc ?_ _)); refine blk_put (cs := #[.int .i64 x458000_1, .int .i64 x458001_1, .int .i64 0]) ?_ 2 _ rfl; (with_reducible repeat (first | refine blk_drewN ?_ _ | refine blk_drew ?_ | refine blk_alloc ?_ _)); refine blk_put (cs := #[.int .i64 x458000_1, .int .i64 0, .int .i64 0]) ?_ 1 _ rfl; (with_reducible repeat (first | refine blk_drewN ?_ _ | refine blk_drew ?_ | refine blk_alloc ?_ _)); refine blk_put (cs := #[.int .i64 0, .int .i64 0, .int .i64 0]) ?_ 0 _ rfl; (with_reducible repeat (first | refine blk_drewN ?_ _ | refine blk_drew ?_ | refine blk_alloc ?_ _)); refine blk_far ?_ NB452_451.out _; (with_reducible repeat (first | refine blk_drewN ?_ _ | refine blk_drew ?_ | refine blk_alloc ?_ _)); refine blk_far ?_ NB452_451.out _; (with_reducible repeat (first | refine blk_drewN ?_ _ | refine blk_drew ?_ | refine blk_alloc ?_ _)); refine blk_far ?_ NB452_451.out _; (with_reducible repeat (first | refine blk_drewN ?_ _ | refine blk_drew ?_ | refine blk_alloc ?_ _)); exact BK452.out) Try.underlying30 rfl (by kernel_rfl) (.tmp .nil)))) rfl ?_
              exact ⟨by first | rfl | (simp [errW_none, errW_some] <;> rfl) | (simp [*, errW_none, errW_some] <;> rfl), by repeat (first | (with_reducible first | exact HB.out | apply below_alloc | apply pw_below_drewN | apply below_drew1 | refine below_set ?_ GE451.out | refine below_set ?_ GE452.out | refine below_set ?_ GE456.out | refine below_set ?_ GE457.out) | exact HB.out)⟩
      · rw [if_neg c11] at H
        exact absurd H (by simp)
  · rw [if_neg c3] at H
    have c3b0 : (t453 == 0) = false := beq_eq_false_iff_ne.mpr c3
    have c3b1 : (t453 != 0) = true := bne_iff_ne.mpr c3
    simp only [Option.some.injEq, Prod.mk.injEq] at H
    obtain ⟨rfl, rfl, rfl, rfl, rfl, rfl, rfl⟩ := H
    go_enter Try.func35, Try.ntmps35
    go_wp2_with (first | ((with_reducible refine gate_dst (N := 2) rfl ?_); refine box_event ?hg (N := 2) ?hd (cs := #[.int .i64 0, .int .i64 0, .int .i64 0]) (t := 30) ?hr ?_; (case hd => rfl); (case hg => rfl); (case hr => first | (go_simp; done) | (go_simp; rfl)); intro gb451 hg w49 hbox hb; have n0_ := Aside0.mk (below_step (by repeat (first | (with_reducible first | exact HB.out | apply below_alloc | apply pw_below_drewN | apply below_drew1) | exact HB.out)) hb); have n1_ := Aside0.mk (hbox); have n2_ := Aside0.mk ((by rw [hg]; exact (below_size (by repeat (first | (with_reducible first | exact HB.out | apply below_alloc | apply pw_below_drewN | apply below_drew1) | exact HB.out))) : w.heap.size ≤ gb451)); have n3_ := Aside0.mk ((by rw [hg]; exact (below_size (by repeat (first | (with_reducible first | exact HB.out | apply below_alloc | apply pw_below_drewN | apply below_drew1) | exact HB.out))) : w.heap.size ≤ gb451)); clear HB; have HB := n0_; have BK451 := n1_; have GW451 := n2_; have GE451 := n3_; clear n0_ n1_ n2_ n3_; clear hb hbox hg) | ((with_reducible refine gate_dst (N := 3) rfl ?_); refine box_event ?hg (N := 3) ?hd (cs := #[.int .i64 0, .int .i64 0, .int .i64 0]) (t := 30) ?hr ?_; (case hd => rfl); (case hg => rfl); (case hr => first | (go_simp; done) | (go_simp; rfl)); intro gb452 hg w50 hbox hb; have n0_ := Aside0.mk (blk_below (g := gb451) (o := .cells #[.int .i64 0, .int .i64 0, .int .i64 0] 30 (0, 0)) (by (with_reducible repeat (first | refine blk_drewN ?_ _ | refine blk_drew ?_ | refine blk_alloc ?_ _)); exact BK451.out) hb); have n1_ := Aside0.mk (below_step (by repeat (first | (with_reducible first | exact HB.out | apply below_alloc | apply pw_below_drewN | apply below_drew1 | refine below_set ?_ GE451.out) | exact HB.out)) hb); have n2_ := Aside0.mk (hbox); have n3_ := Aside0.mk ((by rw [hg]; exact (below_size (by repeat (first | (with_reducible first | exact HB.out | apply below_alloc | apply pw_below_drewN | apply below_drew1 | refine below_set ?_ GE451.out) | exact HB.out))) : w.heap.size ≤ gb452)); have n4_ := Aside0.mk ((by rw [hg]; exact (below_size (by repeat (first | (with_reducible first | exact HB.out | apply below_alloc | apply pw_below_drewN | apply below_drew1 | refine below_set ?_ GE451.out) | exact HB.out))) : w.heap.size ≤ gb452)); have n5_ := Aside0.mk ((by rw [hg]; exact Nat.ne_of_lt (blk_lt (g := gb451) (o := .cells #[.int .i64 0, .int .i64 0, .int .i64 0] 30 (0, 0)) (by (with_reducible repeat (first | refine blk_drewN ?_ _ | refine blk_drew ?_ | refine blk_alloc ?_ _)); exact BK451.out)) : gb451 ≠ gb452)); have n6_ := Aside0.mk ((by rw [hg]; exact Nat.ne_of_gt (blk_lt (g := gb451) (o := .cells #[.int .i64 0, .int .i64 0, .int .i64 0] 30 (0, 0)) (by (with_reducible repeat (first | refine blk_drewN ?_ _ | refine blk_drew ?_ | refine blk_alloc ?_ _)); exact BK451.out)) : gb452 ≠ gb451)); clear BK451; clear HB; have BK451 := n0_; have HB := n1_; have BK452 := n2_; have GW452 := n3_; have GE452 := n4_; have NB451_452 := n5_; have NB452_451 := n6_; clear n0_ n1_ n2_ n3_ n4_ n5_ n6_; clear hb hbox hg) | ((with_reducible refine gate_callee (f := 39) rfl ?_); refine goesL_ (some 10) rfl rfl Try.func39 (by kernel_rfl) rfl #[.slice A0 l0.length c0] rfl (by (try simp only [List.map_toArray, List.map_cons, List.map_nil]); first | done | rfl | (simp only [List.length_drop, List.length_take]; rfl)) ?_; (with_reducible refine (metrolabref07_CheckSpots.calls k _ _ l0 t453 _ ?side1 ?side2 A2.out).mono ?_); (case side1 => repeat (first | exact (Kd.C_below HR0.out HB.out) | (with_reducible refine Kd.C_alloc ?_ _) | (with_reducible refine Kd.C_drewN ?_ _) | (with_reducible refine Kd.C_drew ?_))); (case side2 => exact HC0.out); rintro e w51 ⟨rfl, hb⟩; refine ⟨_, rfl, ?_⟩; have n0_ := Aside0.mk (blk_below (g := gb451) (o := .cells #[.int .i64 0, .int .i64 0, .int .i64 0] 30 (0, 0)) (by (with_reducible repeat (first | refine blk_drewN ?_ _ | refine blk_drew ?_ | refine blk_alloc ?_ _)); exact BK451.out) hb); have n1_ := Aside0.mk (blk_below (g := gb452) (o := .cells #[.int .i64 0, .int .i64 0, .int .i64 0] 30 (0, 0)) (by (with_reducible repeat (first | refine blk_drewN ?_ _ | refine blk_drew ?_ | refine blk_alloc ?_ _)); exact BK452.out) hb); have n2_ := Aside0.mk (below_step (by repeat (first | (with_reducible first | exact HB.out | apply below_alloc | apply pw_below_drewN | apply below_drew1 | refine below_set ?_ GE451.out | refine below_set ?_ GE452.out) | exact HB.out)) hb); clear BK451; clear BK452; clear HB; have BK451 := n0_; have BK452 := n1_; have HB := n2_; clear n0_ n1_ n2_; (try clear hb); (try clear hb2); (try clear hk); (try clear hi); have hnb52 := NB451_452.out; have hnc52 := NB452_451.out; have hcz53_0 : w51.cell? ⟨gb451, 0, none⟩ = some (.int .i64 0) := (blk_cell BK451.out 0).trans rfl; have hcz53_1 : w51.cell? ⟨gb451, 1, none⟩ = some (.int .i64 0) := (blk_cell BK451.out 1).trans rfl; have hcz53_2 : w51.cell? ⟨gb451, 2, none⟩ = some (.int .i64 0) := (blk_cell BK451.out 2).trans rfl; have hfz53_0 := blk_frozen BK451.out 0; have hfz53_1 := blk_frozen BK451.out 1; have hfz53_2 := blk_frozen BK451.out 2; have hcz54_0 : w51.cell? ⟨gb452, 0, none⟩ = some (.int .i64 0) := (blk_cell BK452.out 0).trans rfl; have hcz54_1 : w51.cell? ⟨gb452, 1, none⟩ = some (.int .i64 0) := (blk_cell BK452.out 1).trans rfl; have hcz54_2 : w51.cell? ⟨gb452, 2, none⟩ = some (.int .i64 0) := (blk_cell BK452.out 2).trans rfl; have hfz54_0 := blk_frozen BK452.out 0; have hfz54_1 := blk_frozen BK452.out 1; have hfz54_2 := blk_frozen BK452.out 2))
    refine bodyPost_ret (results_list (rs := [.cell 2 30, .cell 3 30, .tmp 4]) rfl (by simp) (.cell gb451 30 #[.int .i64 0, .int .i64 0, .int .i64 0] (0, 0) _ rfl (by (with_reducible repeat (first | refine blk_drewN ?_ _ | refine blk_drew ?_ | refine blk_alloc ?_ _)); refine blk_far ?_ NB451_452.out _; (with_reducible repeat (first | refine blk_drewN ?_ _ | refine blk_drew ?_ | refine blk_alloc ?_ _)); refine blk_far ?_ NB451_452.out _; (with_reducible repeat (first | refine blk_drewN ?_ _ | refine blk_drew ?_ | refine blk_alloc ?_ _)); refine blk_far ?_ NB451_452.out _; (with_reducible repeat (first | refine blk_drewN ?_ _ | refine blk_drew ?_ | refine blk_alloc ?_ _)); refine blk_put (cs := #[.int .i64 0, .int .i64 0, .int .i64 0]) ?_ 2 _ rfl; (with_reducible repeat (first | refine blk_drewN ?_ _ | refine blk_drew ?_ | refine blk_alloc ?_ _)); refine blk_put (cs := #[.int .i64 0, .int .i64 0, .int .i64 0]) ?_ 1 _ rfl; (with_reducible repeat (first | refine blk_drewN ?_ _ | refine blk_drew ?_ | refine blk_alloc ?_ _)); refine blk_put (cs := #[.int .i64 0, .int .i64 0, .int .i64 0]) ?_ 0 _ rfl; (with_reducible repeat (first | refine blk_drewN ?_ _ | refine blk_drew ?_ | refine blk_alloc ?_ _)); exact BK451.out) Try.underlying30 rfl (by kernel_rfl) (.cell gb452 30 #[.int .i64 0, .int .i64 0, .int .i64 0] (0, 0) _ rfl (by (with_reducible repeat (first | refine blk_drewN ?_ _ | refine blk_drew ?_ | refine blk_alloc ?_ _)); refine blk_put (cs := #[.int .i64 0, .int .i64 0, .int .i64 0]) ?_ 2 _ rfl; (with_reducible repeat (first | refine blk_drewN ?_ _ | refine blk_drew ?_ | refine blk_alloc ?_ _)); refine blk_put (cs := #[.int .i64 0, .int .i64 0, .int .i64 0]) ?_ 1 _ rfl; (with_reducible repeat (first | refine blk_drewN ?_ _ | refine blk_drew ?_ | refine blk_alloc ?_ _)); refine blk_put (cs := #[.int .i64 0, .int .i64 0, .int .i64 0]) ?_ 0 _ rfl; (with_reducible repeat (first | refine blk_drewN ?_ _ | refine blk_drew ?_ | refine blk_alloc ?_ _)); refine blk_far ?_ NB452_451.out _; (with_reducible repeat (first | refine blk_drewN ?_ _ | refine blk_drew ?_ | refine blk_alloc ?_ _)); refine blk_far ?_ NB452_451.out _; (with_reducible repeat (first | refine blk_drewN ?_ _ | refine blk_drew ?_ | refine blk_alloc ?_ _)); refine blk_far ?_ NB452_451.out _; (with_reducible repeat (first | refine blk_drewN ?_ _ | refine blk_drew ?_ | refine blk_alloc ?_ _)); exact BK452.out) Try.underlying30 rfl (by kernel_rfl) (.tmp .nil)))) rfl ?_
    exact ⟨by first | rfl | (simp [errW_none, errW_some] <;> rfl) | (simp [*, errW_none, errW_some] <;> rfl), by repeat (first | (with_reducible first | exact HB.out | apply below_alloc | apply pw_below_drewN | apply below_drew1 | refine below_set ?_ GE451.out | refine below_set ?_ GE452.out) | exact HB.out)⟩

end Go.Proofs.Ytgfkodanekfekaa.X

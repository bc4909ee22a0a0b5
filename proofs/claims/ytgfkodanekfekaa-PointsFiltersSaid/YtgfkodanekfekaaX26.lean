-- Made by wip/xprint.py for this claim: the kit's printer over the translation, with hand-proved functions in their places. Lean checks it.
import Derived.Test.YtgfkodanekfekaaX0
import Derived.Test.YtgfkodanekfekaaX6
import Derived.Test.YtgfkodanekfekaaX25
namespace Go.Proofs.Ytgfkodanekfekaa.X
open Go.RowKit Go.Proofs.YtgfkodanekfekaaW.PrintWords Go.Proofs.YtgfkodanekfekaaW.PrintLast Go.Proofs.YtgfkodanekfekaaW.PrintMore
attribute [local go_sem] max2_int min2_int max_two min_two max_three min_three max_four min_four   -- for this text's walks alone
set_option linter.unusedVariables false
set_option linter.unusedSimpArgs false

/-! ### metrolabref07_FarSpace: function 92 -/
def metrolabref07_FarSpace.f (a0_0 : Int) (a0_1 : Int) (a0_2 : Int) (a1_0 : Int) (a1_1 : Int) (a1_2 : Int) : Option (Int) := (metrolabref07_Less.f a0_0 a0_1 a0_2 a1_0 a1_1 a1_2).bind fun bt434 => ((metrolabref07_Less.f a0_0 a0_1 a0_2 a1_0 a1_1 a1_2).bind fun bt437 => ((metrolabref07_TimesSpace.f bt434.1 bt434.2.1 bt434.2.2 bt437.1 bt437.2.1 bt437.2.2).bind fun t440 => (some t440)))
def metrolabref07_FarSpace.T1 : Bool × List (List Nat × List Nat) := (true, [([], []), ([], []), ([0, 1], [0, 1]), ([], []), ([], []), ([3, 4, 2], [3, 4]), ([2, 5, 5], [2, 5]), ([6, 6, 0, 1, 2, 3, 4, 5, 6], [6])])
def metrolabref07_FarSpace.B1 : List Nat := [0, 0, 3, 0, 0, 31, 63, 127]
theorem metrolabref07_FarSpace.tab1 : rtab .any (opsOf Try.f92 1) = metrolabref07_FarSpace.T1 := by kernel_rfl
theorem metrolabref07_FarSpace.bits1 : waitsOk metrolabref07_FarSpace.T1.2 metrolabref07_FarSpace.B1 = true := by kernel_rfl
set_option maxHeartbeats 8000000 in
set_option maxRecDepth 100000 in
theorem metrolabref07_FarSpace.calls (a0_0 : Int) (a0_1 : Int) (a0_2 : Int) (a1_0 : Int) (a1_1 : Int) (a1_2 : Int) (r : Int) (w : World) (h : metrolabref07_FarSpace.f a0_0 a0_1 a0_2 a1_0 a1_1 a1_2 = some r) :
    Calls Try.prog 92 #[.agg #[.int .i64 a0_0, .int .i64 a0_1, .int .i64 a0_2], .agg #[.int .i64 a1_0, .int .i64 a1_1, .int .i64 a1_2]] w fun e w' => e = .returned (.int .i64 r) ∧ Below w.heap.size w w' := by
  have hu30 := Try.underlying30
  have HB := Aside0.mk (Below.refl w.heap.size w)
  have H : ((metrolabref07_Less.f a0_0 a0_1 a0_2 a1_0 a1_1 a1_2).bind fun bt434 => ((metrolabref07_Less.f a0_0 a0_1 a0_2 a1_0 a1_1 a1_2).bind fun bt437 => ((metrolabref07_TimesSpace.f bt434.1 bt434.2.1 bt434.2.2 bt437.1 bt437.2.1 bt437.2.2).bind fun t440 => (some t440)))) = some r := h
  clear h
  replace H := Option.bind_eq_some_iff.mp H
  obtain ⟨⟨t434, t435, t436⟩, A30, H⟩ := H
  replace H : ((metrolabref07_Less.f a0_0 a0_1 a0_2 a1_0 a1_1 a1_2).bind fun bt437 => ((metrolabref07_TimesSpace.f t434 t435 t436 bt437.1 bt437.2.1 bt437.2.2).bind fun t440 => (some t440))) = some r := H
  have A3 := Aside0.mk A30
  clear A30
  replace H := Option.bind_eq_some_iff.mp H
  obtain ⟨⟨t437, t438, t439⟩, A40, H⟩ := H
  replace H : ((metrolabref07_TimesSpace.f t434 t435 t436 t437 t438 t439).bind fun t440 => (some t440)) = some r := H
  have A4 := Aside0.mk A40
  clear A40
  replace H := Option.bind_eq_some_iff.mp H
  obtain ⟨t440, A50, H⟩ := H
  replace H : (some t440) = some r := H
  have A5 := Aside0.mk A50
  clear A50
  obtain rfl := Option.some.inj H
  go_enter Try.func92, Try.ntmps92
  try go_wp2_with (first | ((with_reducible refine gate_dst (N := 2) rfl ?_); refine box_event ?hg (N := 2) ?hd (cs := #[.int .i64 a0_0, .int .i64 a0_1, .int .i64 a0_2]) (t := 30) ?hr ?_; (case hd => rfl); (case hg => rfl); (case hr => first | (go_simp; done) | (go_simp; rfl)); intro gb432 hg w6 hbox hb; have n0_ := Aside0.mk (below_step (by repeat (first | (with_reducible first | exact HB.out | apply below_alloc | apply pw_below_drewN | apply below_drew1) | exact HB.out)) hb); have n1_ := Aside0.mk (hbox); have n2_ := Aside0.mk ((by rw [hg]; exact (below_size (by repeat (first | (with_reducible first | exact HB.out | apply below_alloc | apply pw_below_drewN | apply below_drew1) | exact HB.out))) : w.heap.size ≤ gb432)); have n3_ := Aside0.mk ((by rw [hg]; exact (below_size (by repeat (first | (with_reducible first | exact HB.out | apply below_alloc | apply pw_below_drewN | apply below_drew1) | exact HB.out))) : w.heap.size ≤ gb432)); clear HB; have HB := n0_; have BK432 := n1_; have GW432 := n2_; have GE432 := n3_; clear n0_ n1_ n2_ n3_; clear hb hbox hg) | ((with_reducible refine gate_dst (N := 3) rfl ?_); refine box_event ?hg (N := 3) ?hd (cs := #[.int .i64 a1_0, .int .i64 a1_1, .int .i64 a1_2]) (t := 30) ?hr ?_; (case hd => rfl); (case hg => rfl); (case hr => first | (go_simp; done) | (go_simp; rfl)); intro gb433 hg w7 hbox hb; have n0_ := Aside0.mk (blk_below (g := gb432) (o := .cells #[.int .i64 a0_0, .int .i64 a0_1, .int .i64 a0_2] 30 (0, 0)) (by (with_reducible repeat (first | refine blk_drewN ?_ _ | refine blk_drew ?_ | refine blk_alloc ?_ _)); exact BK432.out) hb); have n1_ := Aside0.mk (below_step (by repeat (first | (with_reducible first | exact HB.out | apply below_alloc | apply pw_below_drewN | apply below_drew1 | refine below_set ?_ GE432.out) | exact HB.out)) hb); have n2_ := Aside0.mk (hbox); have n3_ := Aside0.mk ((by rw [hg]; exact (below_size (by repeat (first | (with_reducible first | exact HB.out | apply below_alloc | apply pw_below_drewN | apply below_drew1 | refine below_set ?_ GE432.out) | exact HB.out))) : w.heap.size ≤ gb433)); have n4_ := Aside0.mk ((by rw [hg]; exact (below_size (by repeat (first | (with_reducible first | exact HB.out | apply below_alloc | apply pw_below_drewN | apply below_drew1 | refine below_set ?_ GE432.out) | exact HB.out))) : w.heap.size ≤ gb433)); have n5_ := Aside0.mk ((by rw [hg]; exact Nat.ne_of_lt (blk_lt (g := gb432) (o := .cells #[.int .i64 a0_0, .int .i64 a0_1, .int .i64 a0_2] 30 (0, 0)) (by (with_reducible repeat (first | refine blk_drewN ?_ _ | refine blk_drew ?_ | refine blk_alloc ?_ _)); exact BK432.out)) : gb432 ≠ gb433)); have n6_ := Aside0.mk ((by rw [hg]; exact Nat.ne_of_gt (blk_lt (g := gb432) (o := .cells #[.int .i64 a0_0, .int .i64 a0_1, .int .i64 a0_2] 30 (0, 0)) (by (with_reducible repeat (first | refine blk_drewN ?_ _ | refine blk_drew ?_ | refine blk_alloc ?_ _)); exact BK432.out)) : gb433 ≠ gb432)); clear BK432; clear HB; have BK432 := n0_; have HB := n1_; have BK433 := n2_; have GW433 := n3_; have GE433 := n4_; have NB432_433 := n5_; have NB433_432 := n6_; clear n0_ n1_ n2_ n3_ n4_ n5_ n6_; clear hb hbox hg))
  have n0_ := Aside0.mk (blk_drew BK432.out)
  have n1_ := Aside0.mk (blk_drew BK433.out)
  have n2_ := Aside0.mk (below_drew1 HB.out)
  clear BK432
  clear BK433
  clear HB
  have BK432 := n0_
  have BK433 := n1_
  have HB := n2_
  clear n0_ n1_ n2_
  refine start_ (n := 8) (S := fun w' => w'.cell? ⟨gb432, 0, none⟩ = some (.int .i64 a0_0) ∧ w'.cell? ⟨gb432, 1, none⟩ = some (.int .i64 a0_1) ∧ w'.cell? ⟨gb432, 2, none⟩ = some (.int .i64 a0_2) ∧ w'.cell? ⟨gb433, 0, none⟩ = some (.int .i64 a1_0) ∧ w'.cell? ⟨gb433, 1, none⟩ = some (.int .i64 a1_1) ∧ w'.cell? ⟨gb433, 2, none⟩ = some (.int .i64 a1_2)) (ds := []) #[false, false, false, false, false, false, false, false] (by kernel_rfl) rfl rfl ⟨(blk_cell BK432.out 0).trans rfl, (blk_cell BK432.out 1).trans rfl, (blk_cell BK432.out 2).trans rfl, (blk_cell BK433.out 0).trans rfl, (blk_cell BK433.out 1).trans rfl, (blk_cell BK433.out 2).trans rfl⟩ (fun hHeld => ?_); refine with_tabW metrolabref07_FarSpace.tab1 metrolabref07_FarSpace.bits1 (fun HT_ HW_ => ?_)
  generalize w7.drew = w8 at BK432 BK433 HB hHeld ⊢
  refine take_ (i := 0) (N := some 5) (v := ?_) (a' := ?_) #[true, false, false, false, false, false, false, false] rfl rfl (take_ofW HT_.out HW_.out (by kernel_rfl)) (fun _ _ _ h => h) (Or.inl ⟨by rfl, ?_⟩) hHeld ?_ ?_
  rotate_left
  · rintro w' ⟨s0, s1, s2, s3, s4, s5⟩
    go_simp
    with_reducible rfl
  rotate_left
  · simp only [Act.put, List.setIfInBounds_toArray, List.set_cons_zero, List.set_cons_succ, i64_w, i32_w]
    rfl
  refine take_ (i := 1) (N := some 6) (v := ?_) (a' := ?_) #[true, true, false, false, false, false, false, false] rfl rfl (take_ofW HT_.out HW_.out (by kernel_rfl)) (fun _ _ _ h => h) (Or.inl ⟨by rfl, ?_⟩) hHeld ?_ ?_
  rotate_left
  · rintro w' ⟨s0, s1, s2, s3, s4, s5⟩
    go_simp
    with_reducible rfl
  rotate_left
  · simp only [Act.put, List.setIfInBounds_toArray, List.set_cons_zero, List.set_cons_succ, i64_w, i32_w]
    rfl
  refine take_ (i := 3) (N := some 8) (v := ?_) (a' := ?_) #[true, true, false, true, false, false, false, false] rfl rfl (take_ofW HT_.out HW_.out (by kernel_rfl)) (fun _ _ _ h => h) (Or.inl ⟨by rfl, ?_⟩) hHeld ?_ ?_
  rotate_left
  · rintro w' ⟨s0, s1, s2, s3, s4, s5⟩
    go_simp
    with_reducible rfl
  rotate_left
  · simp only [Act.put, List.setIfInBounds_toArray, List.set_cons_zero, List.set_cons_succ, i64_w, i32_w]
    rfl
  refine take_ (i := 4) (N := some 9) (v := ?_) (a' := ?_) #[true, true, false, true, true, false, false, false] rfl rfl (take_ofW HT_.out HW_.out (by kernel_rfl)) (fun _ _ _ h => h) (Or.inl ⟨by rfl, ?_⟩) hHeld ?_ ?_
  rotate_left
  · rintro w' ⟨s0, s1, s2, s3, s4, s5⟩
    go_simp
    with_reducible rfl
  rotate_left
  · simp only [Act.put, List.setIfInBounds_toArray, List.set_cons_zero, List.set_cons_succ, i64_w, i32_w]
    rfl
  refine one_ (i := 2) (N := some 7) #[true, true, true, true, true, false, false, false] rfl rfl (one_of HT_.out (by kernel_rfl)) (by decide) (fun K hK => ?_)
  refine goes_ Try.func101 (by kernel_rfl) rfl #[.agg #[.int .i64 a0_0, .int .i64 a0_1, .int .i64 a0_2], .agg #[.int .i64 a1_0, .int .i64 a1_1, .int .i64 a1_2]] (by rfl) rfl rfl (by (try simp only [List.map_toArray, List.map_cons, List.map_nil]); first | done | rfl | (simp only [List.length_drop, List.length_take]; rfl)) ?_
  with_reducible refine (metrolabref07_Less.calls a0_0 a0_1 a0_2 a1_0 a1_1 a1_2 t434 t435 t436 _ A3.out).mono ?_
  rintro e w9 ⟨rfl, hb⟩
  refine ⟨_, rfl, ?_⟩
  have n0_ := Aside0.mk (blk_below (g := gb432) (o := .cells #[.int .i64 a0_0, .int .i64 a0_1, .int .i64 a0_2] 30 (0, 0)) (by (with_reducible repeat (first | refine blk_drewN ?_ _ | refine blk_drew ?_ | refine blk_alloc ?_ _)); exact BK432.out) hb)
  have n1_ := Aside0.mk (blk_below (g := gb433) (o := .cells #[.int .i64 a1_0, .int .i64 a1_1, .int .i64 a1_2] 30 (0, 0)) (by (with_reducible repeat (first | refine blk_drewN ?_ _ | refine blk_drew ?_ | refine blk_alloc ?_ _)); exact BK433.out) hb)
  have n2_ := Aside0.mk (below_step (by repeat (first | (with_reducible first | exact HB.out | apply below_alloc | apply pw_below_drewN | apply below_drew1 | refine below_set ?_ GE432.out | refine below_set ?_ GE433.out) | exact HB.out)) hb)
  clear BK432
  clear BK433
  clear HB
  have BK432 := n0_
  have BK433 := n1_
  have HB := n2_
  clear n0_ n1_ n2_
  (try clear hb)
  (try clear hb2)
  (try clear hk)
  (try clear hi)
  refine hK.out _ _ ⟨(blk_cell BK432.out 0).trans rfl, (blk_cell BK432.out 1).trans rfl, (blk_cell BK432.out 2).trans rfl, (blk_cell BK433.out 0).trans rfl, (blk_cell BK433.out 1).trans rfl, (blk_cell BK433.out 2).trans rfl⟩ (fun hHeld => ?_)
  clear hK K
  refine norm_ (a' := ?_) ?_ ?_
  rotate_left
  · show Act.put _ (some 7) _ = _
    simp only [Act.put, List.setIfInBounds_toArray, List.set_cons_zero, List.set_cons_succ, i64_w, i32_w]
    rfl
  refine one_ (i := 5) (N := some 10) #[true, true, true, true, true, true, false, false] rfl rfl (one_of HT_.out (by kernel_rfl)) (by decide) (fun K hK => ?_)
  refine goes_ Try.func101 (by kernel_rfl) rfl #[.agg #[.int .i64 a0_0, .int .i64 a0_1, .int .i64 a0_2], .agg #[.int .i64 a1_0, .int .i64 a1_1, .int .i64 a1_2]] (by rfl) rfl rfl (by (try simp only [List.map_toArray, List.map_cons, List.map_nil]); first | done | rfl | (simp only [List.length_drop, List.length_take]; rfl)) ?_
  with_reducible refine (metrolabref07_Less.calls a0_0 a0_1 a0_2 a1_0 a1_1 a1_2 t437 t438 t439 _ A4.out).mono ?_
  rintro e w10 ⟨rfl, hb⟩
  refine ⟨_, rfl, ?_⟩
  have n0_ := Aside0.mk (blk_below (g := gb432) (o := .cells #[.int .i64 a0_0, .int .i64 a0_1, .int .i64 a0_2] 30 (0, 0)) (by (with_reducible repeat (first | refine blk_drewN ?_ _ | refine blk_drew ?_ | refine blk_alloc ?_ _)); exact BK432.out) hb)
  have n1_ := Aside0.mk (blk_below (g := gb433) (o := .cells #[.int .i64 a1_0, .int .i64 a1_1, .int .i64 a1_2] 30 (0, 0)) (by (with_reducible repeat (first | refine blk_drewN ?_ _ | refine blk_drew ?_ | refine blk_alloc ?_ _)); exact BK433.out) hb)
  have n2_ := Aside0.mk (below_step (by repeat (first | (with_reducible first | exact HB.out | apply below_alloc | apply pw_below_drewN | apply below_drew1 | refine below_set ?_ GE432.out | refine below_set ?_ GE433.out) | exact HB.out)) hb)
  clear BK432
  clear BK433
  clear HB
  have BK432 := n0_
  have BK433 := n1_
  have HB := n2_
  clear n0_ n1_ n2_
  (try clear hb)
  (try clear hb2)
  (try clear hk)
  (try clear hi)
  refine hK.out _ _ ⟨(blk_cell BK432.out 0).trans rfl, (blk_cell BK432.out 1).trans rfl, (blk_cell BK432.out 2).trans rfl, (blk_cell BK433.out 0).trans rfl, (blk_cell BK433.out 1).trans rfl, (blk_cell BK433.out 2).trans rfl⟩ (fun hHeld => ?_)
  clear hK K
  refine norm_ (a' := ?_) ?_ ?_
  rotate_left
  · show Act.put _ (some 10) _ = _
    simp only [Act.put, List.setIfInBounds_toArray, List.set_cons_zero, List.set_cons_succ, i64_w, i32_w]
    rfl
  refine one_ (i := 6) (N := some 11) #[true, true, true, true, true, true, true, false] rfl rfl (one_of HT_.out (by kernel_rfl)) (by decide) (fun K hK => ?_)
  refine goes_ Try.func100 (by kernel_rfl) rfl #[.agg #[.int .i64 t434, .int .i64 t435, .int .i64 t436], .agg #[.int .i64 t437, .int .i64 t438, .int .i64 t439]] (by rfl) rfl rfl (by (try simp only [List.map_toArray, List.map_cons, List.map_nil]); first | done | rfl | (simp only [List.length_drop, List.length_take]; rfl)) ?_
  with_reducible refine (metrolabref07_TimesSpace.calls t434 t435 t436 t437 t438 t439 t440 _ A5.out).mono ?_
  rintro e w11 ⟨rfl, hb⟩
  refine ⟨_, rfl, ?_⟩
  have n0_ := Aside0.mk (blk_below (g := gb432) (o := .cells #[.int .i64 a0_0, .int .i64 a0_1, .int .i64 a0_2] 30 (0, 0)) (by (with_reducible repeat (first | refine blk_drewN ?_ _ | refine blk_drew ?_ | refine blk_alloc ?_ _)); exact BK432.out) hb)
  have n1_ := Aside0.mk (blk_below (g := gb433) (o := .cells #[.int .i64 a1_0, .int .i64 a1_1, .int .i64 a1_2] 30 (0, 0)) (by (with_reducible repeat (first | refine blk_drewN ?_ _ | refine blk_drew ?_ | refine blk_alloc ?_ _)); exact BK433.out) hb)
  have n2_ := Aside0.mk (below_step (by repeat (first | (with_reducible first | exact HB.out | apply below_alloc | apply pw_below_drewN | apply below_drew1 | refine below_set ?_ GE432.out | refine below_set ?_ GE433.out) | exact HB.out)) hb)
  clear BK432
  clear BK433
  clear HB
  have BK432 := n0_
  have BK433 := n1_
  have HB := n2_
  clear n0_ n1_ n2_
  (try clear hb)
  (try clear hb2)
  (try clear hk)
  (try clear hi)
  refine hK.out _ _ ⟨(blk_cell BK432.out 0).trans rfl, (blk_cell BK432.out 1).trans rfl, (blk_cell BK432.out 2).trans rfl, (blk_cell BK433.out 0).trans rfl, (blk_cell BK433.out 1).trans rfl, (blk_cell BK433.out 2).trans rfl⟩ (fun hHeld => ?_)
  clear hK K
  refine norm_ (a' := ?_) ?_ ?_
  rotate_left
  · show Act.put _ (some 11) _ = _
    simp only [Act.put, List.setIfInBounds_toArray, List.set_cons_zero, List.set_cons_succ, i64_w, i32_w]
    rfl
  refine pure_ (i := 7) (N := some 4) (v := ?_) (a' := ?_) #[true, true, true, true, true, true, true, true] rfl rfl (any_of HT_.out (by kernel_rfl)) (fun _ _ _ h => h) (Or.inl ⟨by rfl, ?_⟩) ?_ ?_
  rotate_left
  · intro w'
    go_simp
    with_reducible rfl
  rotate_left
  · simp only [Act.put, List.setIfInBounds_toArray, List.set_cons_zero, List.set_cons_succ, i64_w, i32_w]
    rfl
  refine done_ (done_of HT_.out (by kernel_rfl)) ?_
  try go_wp2
  go_ret
  exact ⟨by first | rfl | (simp [errW_none, errW_some] <;> rfl) | (simp [*, errW_none, errW_some] <;> rfl), by repeat (first | (with_reducible first | exact HB.out | apply below_alloc | apply pw_below_drewN | apply below_drew1 | refine below_set ?_ GE432.out | refine below_set ?_ GE433.out) | exact HB.out)⟩

/-! ### metrolabref31_far: function 73 -/
def metrolabref31_far.l0 : Nat → List (S30) → Int → Int → Int → Int → Int → Option (Bool)
  | 0, _, _, _, _, _, _ => none
  | k + 1, x0, x2, x7, x442000, x442001, x442002 => if x7 < (x0.length : Int) then (if 0 ≤ x7 then ((metrolabref07_FarSpace.f ((rd_T30 x0 x7).f0) ((rd_T30 x0 x7).f1) ((rd_T30 x0 x7).f2) x442000 x442001 x442002).bind fun t443 => (if t443 < (wrap64 (x2 * x2)) then (some false) else (metrolabref31_far.l0 k x0 x2 (wrap64 (x7 + 1)) x442000 x442001 x442002))) else (none)) else (some true)
def metrolabref31_far.f (k : Nat) (l0 : List (S30)) (a1_0 : Int) (a1_1 : Int) (a1_2 : Int) (a2 : Int) : Option (Bool) := metrolabref31_far.l0 k l0 a2 0 a1_0 a1_1 a1_2
theorem metrolabref31_far.mono_l : ∀ k, (∀ y0 y1 y2 y3 y4 y5, LeO (metrolabref31_far.l0 k y0 y1 y2 y3 y4 y5) (metrolabref31_far.l0 (k + 1) y0 y1 y2 y3 y4 y5))
  | 0 => fun _ _ _ _ _ _ r h => by simp [metrolabref31_far.l0] at h
  | k + 1 => by
    have ih0 := metrolabref31_far.mono_l k
    · intro y0 y1 y2 y3 y4 y5
      unfold metrolabref31_far.l0
      repeat' first
      | (with_reducible exact ih0 _ _ _ _ _ _)
      | (with_reducible exact LeO.refl _)
      | (with_reducible exact LeO.none _)
      | (with_reducible refine LeO.ite ?_ ?_)
      | (with_reducible refine LeO.bind ?_ (fun _ => ?_))
      | exact ih0 _ _ _ _ _ _
      | exact LeO.none _
      | refine LeO.ite ?_ ?_
      | refine LeO.bind ?_ (fun _ => ?_)
theorem metrolabref31_far.mono : ∀ a0 a1 a2 a3 a4 k, LeO (metrolabref31_far.f k a0 a1 a2 a3 a4) (metrolabref31_far.f (k + 1) a0 a1 a2 a3 a4) := by
  intro a0 a1 a2 a3 a4 k
  have ih0 := metrolabref31_far.mono_l k
  unfold metrolabref31_far.f
  repeat' first
      | (with_reducible exact ih0 _ _ _ _ _ _)
      | (with_reducible exact LeO.refl _)
      | (with_reducible exact LeO.none _)
      | (with_reducible refine LeO.ite ?_ ?_)
      | (with_reducible refine LeO.bind ?_ (fun _ => ?_))
      | exact ih0 _ _ _ _ _ _
      | exact LeO.none _
      | refine LeO.ite ?_ ?_
      | refine LeO.bind ?_ (fun _ => ?_)
def metrolabref31_far.T4 : Bool × List (List Nat × List Nat) := (true, [([], []), ([], []), ([0, 1], [0, 1]), ([2], [2]), ([], []), ([3, 4], [3, 4]), ([], []), ([], []), ([6, 7], [6, 7]), ([5, 8], [5, 8])])
def metrolabref31_far.B4 : List Nat := [0, 0, 3, 7, 0, 31, 0, 0, 192, 511]
theorem metrolabref31_far.tab4 : rtab .any (opsOf Try.f73 4) = metrolabref31_far.T4 := by kernel_rfl
theorem metrolabref31_far.bits4 : waitsOk metrolabref31_far.T4.2 metrolabref31_far.B4 = true := by kernel_rfl
set_option maxHeartbeats 8000000 in
set_option maxRecDepth 100000 in
theorem metrolabref31_far.calls (k : Nat) (A0 : Option Addr) (c0 : Nat) (l0 : List (S30)) (a1_0 : Int) (a1_1 : Int) (a1_2 : Int) (a2 : Int) (r : Bool) (w : World) (hr0 : Kd.C k30 w A0 l0.length l0) (hc0 : l0.length ≤ c0) (h : metrolabref31_far.f k l0 a1_0 a1_1 a1_2 a2 = some r) :
    Calls Try.prog 73 #[.slice A0 l0.length c0, .agg #[.int .i64 a1_0, .int .i64 a1_1, .int .i64 a1_2], .int .i64 a2] w fun e w' => e = .returned (.bool r) ∧ Below w.heap.size w w' := by
  have hu30 := Try.underlying30
  have HR0 := Aside0.mk hr0
  have HC0 := Aside0.mk hc0
  clear hr0 hc0
  have HB := Aside0.mk (Below.refl w.heap.size w)
  have H : (metrolabref31_far.l0 k l0 a2 0 a1_0 a1_1 a1_2) = some r := h
  clear h
  have H' := Aside0.mk H
  clear H
  go_enter Try.func73, Try.ntmps73
  go_wp2_with (first | ((with_reducible refine gate_dst (N := 4) rfl ?_); refine box_event ?hg (N := 4) ?hd (cs := #[.int .i64 a1_0, .int .i64 a1_1, .int .i64 a1_2]) (t := 30) ?hr ?_; (case hd => rfl); (case hg => rfl); (case hr => first | (go_simp; done) | (go_simp; rfl)); intro gb441 hg w4 hbox hb; have n0_ := Aside0.mk (below_step (by repeat (first | (with_reducible first | exact HB.out | apply below_alloc | apply pw_below_drewN | apply below_drew1) | exact HB.out)) hb); have n1_ := Aside0.mk (hbox); have n2_ := Aside0.mk ((by rw [hg]; exact (below_size (by repeat (first | (with_reducible first | exact HB.out | apply below_alloc | apply pw_below_drewN | apply below_drew1) | exact HB.out))) : w.heap.size ≤ gb441)); have n3_ := Aside0.mk ((by rw [hg]; exact (below_size (by repeat (first | (with_reducible first | exact HB.out | apply below_alloc | apply pw_below_drewN | apply below_drew1) | exact HB.out))) : w.heap.size ≤ gb441)); clear HB; have HB := n0_; have BK441 := n1_; have GW441 := n2_; have GE441 := n3_; clear n0_ n1_ n2_ n3_; clear hb hbox hg))
  go_loopg [7] k (fun kq v7 w' => ∃ (x7_1 : Int), v7 = .int .i64 x7_1 ∧ Aside0 (metrolabref31_far.l0 kq l0 a2 x7_1 a1_0 a1_1 a1_2 = some r) ∧ Aside0 (kq ≤ k) ∧ Aside0 (w'.heap[gb441]? = some (.cells #[.int .i64 a1_0, .int .i64 a1_1, .int .i64 a1_2] 30 (0, 0))) ∧ Aside0 (Below w.heap.size w w'))
  case atStart => exact ⟨(0), (by first | rfl | (simp; done) | (simp [*]; done)), H', ⟨Nat.le_refl _⟩, ⟨by (with_reducible repeat (first | refine blk_drewN ?_ _ | refine blk_drew ?_ | refine blk_alloc ?_ _)); exact BK441.out⟩, ⟨by repeat (first | (with_reducible first | exact HB.out | apply below_alloc | apply pw_below_drewN | apply below_drew1 | refine below_set ?_ GE441.out) | exact HB.out)⟩⟩
  case round =>
    clear H'
    try clear p2
    obtain ⟨x7_1, rfl, HA, HK1, BK441, HB⟩ := hrel
    cases gk with
    | zero => exact absurd HA.out (by simp [metrolabref31_far.l0])
    | succ k1 =>
      have H := HA.out
      clear HA
      simp only [metrolabref31_far.l0] at H
      by_cases c5 : x7_1 < (l0.length : Int)
      · rw [if_pos c5] at H
        have c5b0 : decide (x7_1 < (l0.length : Int)) = true := decide_eq_true c5
        clear c5
        by_cases c6 : 0 ≤ x7_1
        · rw [if_pos c6] at H
          have c6b0 : decide (0 ≤ x7_1) = true := decide_eq_true c6
          clear c6
          replace H := Option.bind_eq_some_iff.mp H
          obtain ⟨t443, A70, H⟩ := H
          replace H : (if t443 < (wrap64 (a2 * a2)) then (some false) else (metrolabref31_far.l0 k1 l0 a2 (wrap64 (x7_1 + 1)) a1_0 a1_1 a1_2)) = some r := H
          have A7 := Aside0.mk A70
          clear A70
          by_cases c8 : t443 < (wrap64 (a2 * a2))
          · rw [if_pos c8] at H
            have c8b0 : decide (t443 < (wrap64 (a2 * a2))) = true := decide_eq_true c8
            clear c8
            obtain rfl := Option.some.inj H
            try go_wp2
            have n0_ := Aside0.mk (blk_drew BK441.out)
            have n1_ := Aside0.mk (below_drew1 HB.out)
            clear BK441
            clear HB
            have BK441 := n0_
            have HB := n1_
            clear n0_ n1_
            have p442 : 0 ≤ (x7_1 : Int) := of_decide_eq_true (by first | (with_reducible assumption) | assumption)
            have q442 : x7_1 < (l0.length : Int) := of_decide_eq_true (by first | (with_reducible assumption) | assumption)
            obtain ⟨ad442, e442, hx442_0, hx442_1, hx442_2⟩ := at_T30 HR0.out x7_1 p442 q442
            have hw442_2 := hx442_2
            have hw442_1 := hx442_1
            have hw442_0 := hx442_0
            cases e442
            replace hx442_0 := (HB.out.cell (World.block_lt_of_cell? w _ hx442_0)).trans hx442_0
            replace hx442_1 := (HB.out.cell (World.block_lt_of_cell? w _ hx442_1)).trans hx442_1
            replace hx442_2 := (HB.out.cell (World.block_lt_of_cell? w _ hx442_2)).trans hx442_2
            replace p442 := eq_true p442
            replace q442 := eq_true q442
            refine start_ (n := 10) (S := fun w' => w'.cell? ⟨gb441, 0, none⟩ = some (.int .i64 a1_0) ∧ w'.cell? ⟨gb441, 1, none⟩ = some (.int .i64 a1_1) ∧ w'.cell? ⟨gb441, 2, none⟩ = some (.int .i64 a1_2) ∧ w'.cell? (ad442.add ((x7_1).toNat * 3)) = some (.int .i64 ((rd_T30 l0 x7_1).f0)) ∧ w'.cell? ⟨(ad442.add ((x7_1).toNat * 3)).block, (ad442.add ((x7_1).toNat * 3)).off + 1, none⟩ = some (.int .i64 ((rd_T30 l0 x7_1).f1)) ∧ w'.cell? ⟨(ad442.add ((x7_1).toNat * 3)).block, (ad442.add ((x7_1).toNat * 3)).off + 2, none⟩ = some (.int .i64 ((rd_T30 l0 x7_1).f2))) (ds := []) #[false, false, false, false, false, false, false, false, false, false] (by kernel_rfl) rfl rfl ⟨(blk_cell BK441.out 0).trans rfl, (blk_cell BK441.out 1).trans rfl, (blk_cell BK441.out 2).trans rfl, ((HB.out.cell (World.block_lt_of_cell? w _ hw442_0)).trans hw442_0), ((HB.out.cell (World.block_lt_of_cell? w _ hw442_1)).trans hw442_1), ((HB.out.cell (World.block_lt_of_cell? w _ hw442_2)).trans hw442_2)⟩ (fun hHeld => ?_); refine with_tabW metrolabref31_far.tab4 metrolabref31_far.bits4 (fun HT_ HW_ => ?_)
            generalize wr.drew = w9 at BK441 HB hx442_0 hx442_1 hx442_2 hHeld ⊢
            refine pure_ (i := 0) (N := some 14) (v := ?_) (a' := ?_) #[true, false, false, false, false, false, false, false, false, false] rfl rfl (any_of HT_.out (by kernel_rfl)) (fun _ _ _ h => h) (Or.inl ⟨by rfl, ?_⟩) ?_ ?_
            rotate_left
            · intro w'
              go_simp
              with_reducible rfl
            rotate_left
            · simp only [Act.put, List.setIfInBounds_toArray, List.set_cons_zero, List.set_cons_succ, i64_w, i32_w]
              rfl
            refine pure_ (i := 1) (N := some 15) (v := ?_) (a' := ?_) #[true, true, false, false, false, false, false, false, false, false] rfl rfl (any_of HT_.out (by kernel_rfl)) (fun _ _ _ h => h) (Or.inl ⟨by rfl, ?_⟩) ?_ ?_
            rotate_left
            · intro w'
              go_simp
              with_reducible rfl
            rotate_left
            · simp only [Act.put, List.setIfInBounds_toArray, List.set_cons_zero, List.set_cons_succ, i64_w, i32_w]
              rfl
            refine pure_ (i := 2) (N := some 16) (v := ?_) (a' := ?_) #[true, true, true, false, false, false, false, false, false, false] rfl rfl (any_of HT_.out (by kernel_rfl)) (fun _ _ _ h => h) (Or.inl ⟨by rfl, ?_⟩) ?_ ?_
            rotate_left
            · intro w'
              go_simp
              with_reducible rfl
            rotate_left
            · simp only [Act.put, List.setIfInBounds_toArray, List.set_cons_zero, List.set_cons_succ, i64_w, i32_w]
              rfl
            refine pure_ (i := 6) (N := some 20) (v := ?_) (a' := ?_) #[true, true, true, false, false, false, true, false, false, false] rfl rfl (any_of HT_.out (by kernel_rfl)) (fun _ _ _ h => h) (Or.inl ⟨by rfl, ?_⟩) ?_ ?_
            rotate_left
            · intro w'
              go_simp
              with_reducible rfl
            rotate_left
            · simp only [Act.put, List.setIfInBounds_toArray, List.set_cons_zero, List.set_cons_succ, i64_w, i32_w]
              rfl
            refine pure_ (i := 7) (N := some 21) (v := ?_) (a' := ?_) #[true, true, true, false, false, false, true, true, false, false] rfl rfl (any_of HT_.out (by kernel_rfl)) (fun _ _ _ h => h) (Or.inl ⟨by rfl, ?_⟩) ?_ ?_
            rotate_left
            · intro w'
              go_simp
              with_reducible rfl
            rotate_left
            · simp only [Act.put, List.setIfInBounds_toArray, List.set_cons_zero, List.set_cons_succ, i64_w, i32_w]
              rfl
            refine pure_ (i := 8) (N := some 22) (v := ?_) (a' := ?_) #[true, true, true, false, false, false, true, true, true, false] rfl rfl (any_of HT_.out (by kernel_rfl)) (fun _ _ _ h => h) (Or.inl ⟨by rfl, ?_⟩) ?_ ?_
            rotate_left
            · intro w'
              go_simp
              with_reducible rfl
            rotate_left
            · simp only [Act.put, List.setIfInBounds_toArray, List.set_cons_zero, List.set_cons_succ, i64_w, i32_w]
              rfl
            refine take_ (i := 3) (N := some 17) (v := ?_) (a' := ?_) #[true, true, true, true, false, false, true, true, true, false] rfl rfl (take_ofW HT_.out HW_.out (by kernel_rfl)) (fun _ _ _ h => h) (Or.inl ⟨by rfl, ?_⟩) hHeld ?_ ?_
            rotate_left
            · rintro w' ⟨s0, s1, s2, s3, s4, s5⟩
              go_simp
              with_reducible rfl
            rotate_left
            · simp only [Act.put, List.setIfInBounds_toArray, List.set_cons_zero, List.set_cons_succ, i64_w, i32_w]
              rfl
            refine take_ (i := 4) (N := some 18) (v := ?_) (a' := ?_) #[true, true, true, true, true, false, true, true, true, false] rfl rfl (take_ofW HT_.out HW_.out (by kernel_rfl)) (fun _ _ _ h => h) (Or.inl ⟨by rfl, ?_⟩) hHeld ?_ ?_
            rotate_left
            · rintro w' ⟨s0, s1, s2, s3, s4, s5⟩
              go_simp
              with_reducible rfl
            rotate_left
            · simp only [Act.put, List.setIfInBounds_toArray, List.set_cons_zero, List.set_cons_succ, i64_w, i32_w]
              rfl
            refine one_ (i := 5) (N := some 19) #[true, true, true, true, true, true, true, true, true, false] rfl rfl (one_of HT_.out (by kernel_rfl)) (by decide) (fun K hK => ?_)
            refine goes_ Try.func92 (by kernel_rfl) rfl #[.agg #[.int .i64 ((rd_T30 l0 x7_1).f0), .int .i64 ((rd_T30 l0 x7_1).f1), .int .i64 ((rd_T30 l0 x7_1).f2)], .agg #[.int .i64 a1_0, .int .i64 a1_1, .int .i64 a1_2]] (by rfl) rfl rfl (by (try simp only [List.map_toArray, List.map_cons, List.map_nil]); first | done | rfl | (simp only [List.length_drop, List.length_take]; rfl)) ?_
            with_reducible refine (metrolabref07_FarSpace.calls ((rd_T30 l0 x7_1).f0) ((rd_T30 l0 x7_1).f1) ((rd_T30 l0 x7_1).f2) a1_0 a1_1 a1_2 t443 _ A7.out).mono ?_
            rintro e w10 ⟨rfl, hb⟩
            refine ⟨_, rfl, ?_⟩
            have n0_ := Aside0.mk (blk_below (g := gb441) (o := .cells #[.int .i64 a1_0, .int .i64 a1_1, .int .i64 a1_2] 30 (0, 0)) (by (with_reducible repeat (first | refine blk_drewN ?_ _ | refine blk_drew ?_ | refine blk_alloc ?_ _)); exact BK441.out) hb)
            have n1_ := Aside0.mk (below_step (by repeat (first | (with_reducible first | exact HB.out | apply below_alloc | apply pw_below_drewN | apply below_drew1 | refine below_set ?_ GE441.out) | exact HB.out)) hb)
            clear BK441
            clear HB
            have BK441 := n0_
            have HB := n1_
            clear n0_ n1_
            (try clear hb)
            (try clear hb2)
            (try clear hk)
            (try clear hi)
            refine hK.out _ _ ⟨(blk_cell BK441.out 0).trans rfl, (blk_cell BK441.out 1).trans rfl, (blk_cell BK441.out 2).trans rfl, ((HB.out.cell (World.block_lt_of_cell? w _ hw442_0)).trans hw442_0), ((HB.out.cell (World.block_lt_of_cell? w _ hw442_1)).trans hw442_1), ((HB.out.cell (World.block_lt_of_cell? w _ hw442_2)).trans hw442_2)⟩ (fun hHeld => ?_)
            clear hK K
            refine norm_ (a' := ?_) ?_ ?_
            rotate_left
            · show Act.put _ (some 19) _ = _
              simp only [Act.put, List.setIfInBounds_toArray, List.set_cons_zero, List.set_cons_succ, i64_w, i32_w]
              rfl
            refine pure_ (i := 9) (N := some 23) (v := ?_) (a' := ?_) #[true, true, true, true, true, true, true, true, true, true] rfl rfl (any_of HT_.out (by kernel_rfl)) (fun _ _ _ h => h) (Or.inl ⟨by rfl, ?_⟩) ?_ ?_
            rotate_left
            · intro w'
              go_simp
              with_reducible rfl
            rotate_left
            · simp only [Act.put, List.setIfInBounds_toArray, List.set_cons_zero, List.set_cons_succ, i64_w, i32_w]
              rfl
            refine done_ (done_of HT_.out (by kernel_rfl)) ?_
            try go_wp2
            go_ret
            exact ⟨by first | rfl | (simp [errW_none, errW_some] <;> rfl) | (simp [*, errW_none, errW_some] <;> rfl), by repeat (first | (with_reducible first | exact HB.out | apply below_alloc | apply pw_below_drewN | apply below_drew1 | refine below_set ?_ GE441.out) | exact HB.out)⟩
          · rw [if_neg c8] at H
            have c8b0 : decide (t443 < (wrap64 (a2 * a2))) = false := decide_eq_false c8
            clear c8
            have H' := Aside0.mk H
            clear H
            try go_wp2
            have n0_ := Aside0.mk (blk_drew BK441.out)
            have n1_ := Aside0.mk (below_drew1 HB.out)
            clear BK441
            clear HB
            have BK441 := n0_
            have HB := n1_
            clear n0_ n1_
            have p442 : 0 ≤ (x7_1 : Int) := of_decide_eq_true (by first | (with_reducible assumption) | assumption)
            have q442 : x7_1 < (l0.length : Int) := of_decide_eq_true (by first | (with_reducible assumption) | assumption)
            obtain ⟨ad442, e442, hx442_0, hx442_1, hx442_2⟩ := at_T30 HR0.out x7_1 p442 q442
            have hw442_2 := hx442_2
            have hw442_1 := hx442_1
            have hw442_0 := hx442_0
            cases e442
            replace hx442_0 := (HB.out.cell (World.block_lt_of_cell? w _ hx442_0)).trans hx442_0
            replace hx442_1 := (HB.out.cell (World.block_lt_of_cell? w _ hx442_1)).trans hx442_1
            replace hx442_2 := (HB.out.cell (World.block_lt_of_cell? w _ hx442_2)).trans hx442_2
            replace p442 := eq_true p442
            replace q442 := eq_true q442
            refine start_ (n := 10) (S := fun w' => w'.cell? ⟨gb441, 0, none⟩ = some (.int .i64 a1_0) ∧ w'.cell? ⟨gb441, 1, none⟩ = some (.int .i64 a1_1) ∧ w'.cell? ⟨gb441, 2, none⟩ = some (.int .i64 a1_2) ∧ w'.cell? (ad442.add ((x7_1).toNat * 3)) = some (.int .i64 ((rd_T30 l0 x7_1).f0)) ∧ w'.cell? ⟨(ad442.add ((x7_1).toNat * 3)).block, (ad442.add ((x7_1).toNat * 3)).off + 1, none⟩ = some (.int .i64 ((rd_T30 l0 x7_1).f1)) ∧ w'.cell? ⟨(ad442.add ((x7_1).toNat * 3)).block, (ad442.add ((x7_1).toNat * 3)).off + 2, none⟩ = some (.int .i64 ((rd_T30 l0 x7_1).f2))) (ds := []) #[false, false, false, false, false, false, false, false, false, false] (by kernel_rfl) rfl rfl ⟨(blk_cell BK441.out 0).trans rfl, (blk_cell BK441.out 1).trans rfl, (blk_cell BK441.out 2).trans rfl, ((HB.out.cell (World.block_lt_of_cell? w _ hw442_0)).trans hw442_0), ((HB.out.cell (World.block_lt_of_cell? w _ hw442_1)).trans hw442_1), ((HB.out.cell (World.block_lt_of_cell? w _ hw442_2)).trans hw442_2)⟩ (fun hHeld => ?_); refine with_tabW metrolabref31_far.tab4 metrolabref31_far.bits4 (fun HT_ HW_ => ?_)
            generalize wr.drew = w11 at BK441 HB hx442_0 hx442_1 hx442_2 hHeld ⊢
            refine pure_ (i := 0) (N := some 14) (v := ?_) (a' := ?_) #[true, false, false, false, false, false, false, false, false, false] rfl rfl (any_of HT_.out (by kernel_rfl)) (fun _ _ _ h => h) (Or.inl ⟨by rfl, ?_⟩) ?_ ?_
            rotate_left
            · intro w'
              go_simp
              with_reducible rfl
            rotate_left
            · simp only [Act.put, List.setIfInBounds_toArray, List.set_cons_zero, List.set_cons_succ, i64_w, i32_w]
              rfl
            refine pure_ (i := 1) (N := some 15) (v := ?_) (a' := ?_) #[true, true, false, false, false, false, false, false, false, false] rfl rfl (any_of HT_.out (by kernel_rfl)) (fun _ _ _ h => h) (Or.inl ⟨by rfl, ?_⟩) ?_ ?_
            rotate_left
            · intro w'
              go_simp
              with_reducible rfl
            rotate_left
            · simp only [Act.put, List.setIfInBounds_toArray, List.set_cons_zero, List.set_cons_succ, i64_w, i32_w]
              rfl
            refine pure_ (i := 2) (N := some 16) (v := ?_) (a' := ?_) #[true, true, true, false, false, false, false, false, false, false] rfl rfl (any_of HT_.out (by kernel_rfl)) (fun _ _ _ h => h) (Or.inl ⟨by rfl, ?_⟩) ?_ ?_
            rotate_left
            · intro w'
              go_simp
              with_reducible rfl
            rotate_left
            · simp only [Act.put, List.setIfInBounds_toArray, List.set_cons_zero, List.set_cons_succ, i64_w, i32_w]
              rfl
            refine pure_ (i := 6) (N := some 20) (v := ?_) (a' := ?_) #[true, true, true, false, false, false, true, false, false, false] rfl rfl (any_of HT_.out (by kernel_rfl)) (fun _ _ _ h => h) (Or.inl ⟨by rfl, ?_⟩) ?_ ?_
            rotate_left
            · intro w'
              go_simp
              with_reducible rfl
            rotate_left
            · simp only [Act.put, List.setIfInBounds_toArray, List.set_cons_zero, List.set_cons_succ, i64_w, i32_w]
              rfl
            refine pure_ (i := 7) (N := some 21) (v := ?_) (a' := ?_) #[true, true, true, false, false, false, true, true, false, false] rfl rfl (any_of HT_.out (by kernel_rfl)) (fun _ _ _ h => h) (Or.inl ⟨by rfl, ?_⟩) ?_ ?_
            rotate_left
            · intro w'
              go_simp
              with_reducible rfl
            rotate_left
            · simp only [Act.put, List.setIfInBounds_toArray, List.set_cons_zero, List.set_cons_succ, i64_w, i32_w]
              rfl
            refine pure_ (i := 8) (N := some 22) (v := ?_) (a' := ?_) #[true, true, true, false, false, false, true, true, true, false] rfl rfl (any_of HT_.out (by kernel_rfl)) (fun _ _ _ h => h) (Or.inl ⟨by rfl, ?_⟩) ?_ ?_
            rotate_left
            · intro w'
              go_simp
              with_reducible rfl
            rotate_left
            · simp only [Act.put, List.setIfInBounds_toArray, List.set_cons_zero, List.set_cons_succ, i64_w, i32_w]
              rfl
            refine take_ (i := 3) (N := some 17) (v := ?_) (a' := ?_) #[true, true, true, true, false, false, true, true, true, false] rfl rfl (take_ofW HT_.out HW_.out (by kernel_rfl)) (fun _ _ _ h => h) (Or.inl ⟨by rfl, ?_⟩) hHeld ?_ ?_
            rotate_left
            · rintro w' ⟨s0, s1, s2, s3, s4, s5⟩
              go_simp
              with_reducible rfl
            rotate_left
            · simp only [Act.put, List.setIfInBounds_toArray, List.set_cons_zero, List.set_cons_succ, i64_w, i32_w]
              rfl
            refine take_ (i := 4) (N := some 18) (v := ?_) (a' := ?_) #[true, true, true, true, true, false, true, true, true, false] rfl rfl (take_ofW HT_.out HW_.out (by kernel_rfl)) (fun _ _ _ h => h) (Or.inl ⟨by rfl, ?_⟩) hHeld ?_ ?_
            rotate_left
            · rintro w' ⟨s0, s1, s2, s3, s4, s5⟩
              go_simp
              with_reducible rfl
            rotate_left
            · simp only [Act.put, List.setIfInBounds_toArray, List.set_cons_zero, List.set_cons_succ, i64_w, i32_w]
              rfl
            refine one_ (i := 5) (N := some 19) #[true, true, true, true, true, true, true, true, true, false] rfl rfl (one_of HT_.out (by kernel_rfl)) (by decide) (fun K hK => ?_)
            refine goes_ Try.func92 (by kernel_rfl) rfl #[.agg #[.int .i64 ((rd_T30 l0 x7_1).f0), .int .i64 ((rd_T30 l0 x7_1).f1), .int .i64 ((rd_T30 l0 x7_1).f2)], .agg #[.int .i64 a1_0, .int .i64 a1_1, .int .i64 a1_2]] (by rfl) rfl rfl (by (try simp only [List.map_toArray, List.map_cons, List.map_nil]); first | done | rfl | (simp only [List.length_drop, List.length_take]; rfl)) ?_
            with_reducible refine (metrolabref07_FarSpace.calls ((rd_T30 l0 x7_1).f0) ((rd_T30 l0 x7_1).f1) ((rd_T30 l0 x7_1).f2) a1_0 a1_1 a1_2 t443 _ A7.out).mono ?_
            rintro e w12 ⟨rfl, hb⟩
            refine ⟨_, rfl, ?_⟩
            have n0_ := Aside0.mk (blk_below (g := gb441) (o := .cells #[.int .i64 a1_0, .int .i64 a1_1, .int .i64 a1_2] 30 (0, 0)) (by (with_reducible repeat (first | refine blk_drewN ?_ _ | refine blk_drew ?_ | refine blk_alloc ?_ _)); exact BK441.out) hb)
            have n1_ := Aside0.mk (below_step (by repeat (first | (with_reducible first | exact HB.out | apply below_alloc | apply pw_below_drewN | apply below_drew1 | refine below_set ?_ GE441.out) | exact HB.out)) hb)
            clear BK441
            clear HB
            have BK441 := n0_
            have HB := n1_
            clear n0_ n1_
            (try clear hb)
            (try clear hb2)
            (try clear hk)
            (try clear hi)
            refine hK.out _ _ ⟨(blk_cell BK441.out 0).trans rfl, (blk_cell BK441.out 1).trans rfl, (blk_cell BK441.out 2).trans rfl, ((HB.out.cell (World.block_lt_of_cell? w _ hw442_0)).trans hw442_0), ((HB.out.cell (World.block_lt_of_cell? w _ hw442_1)).trans hw442_1), ((HB.out.cell (World.block_lt_of_cell? w _ hw442_2)).trans hw442_2)⟩ (fun hHeld => ?_)
            clear hK K
            refine norm_ (a' := ?_) ?_ ?_
            rotate_left
            · show Act.put _ (some 19) _ = _
              simp only [Act.put, List.setIfInBounds_toArray, List.set_cons_zero, List.set_cons_succ, i64_w, i32_w]
              rfl
            refine pure_ (i := 9) (N := some 23) (v := ?_) (a' := ?_) #[true, true, true, true, true, true, true, true, true, true] rfl rfl (any_of HT_.out (by kernel_rfl)) (fun _ _ _ h => h) (Or.inl ⟨by rfl, ?_⟩) ?_ ?_
            rotate_left
            · intro w'
              go_simp
              with_reducible rfl
            rotate_left
            · simp only [Act.put, List.setIfInBounds_toArray, List.set_cons_zero, List.set_cons_succ, i64_w, i32_w]
              rfl
            refine done_ (done_of HT_.out (by kernel_rfl)) ?_
            try go_wp2
            go_roundg k1
            case measure => have := HK1.out; omega
            case rel => exact ⟨(wrap64 (x7_1 + 1)), (by first | rfl | (simp; done) | (simp [*]; done)), H', ⟨by have := HK1.out; omega⟩, ⟨by (with_reducible repeat (first | refine blk_drewN ?_ _ | refine blk_drew ?_ | refine blk_alloc ?_ _)); exact BK441.out⟩, ⟨by repeat (first | (with_reducible first | exact HB.out | apply below_alloc | apply pw_below_drewN | apply below_drew1 | refine below_set ?_ GE441.out) | exact HB.out)⟩⟩
        · rw [if_neg c6] at H
          exact absurd H (by simp)
      · rw [if_neg c5] at H
        have c5b0 : decide (x7_1 < (l0.length : Int)) = false := decide_eq_false c5
        clear c5
        obtain rfl := Option.some.inj H
        go_wp2
        go_ret
        exact ⟨by first | rfl | (simp [errW_none, errW_some] <;> rfl) | (simp [*, errW_none, errW_some] <;> rfl), by repeat (first | (with_reducible first | exact HB.out | apply below_alloc | apply pw_below_drewN | apply below_drew1 | refine below_set ?_ GE441.out) | exact HB.out)⟩

/-! ### metrolabref31_Thin: function 33 -/
mutual
def metrolabref31_Thin.j0 : Nat → List (S30) → Int → Bool → Option ((List (S30)) × Int)
  | 0, _, _, _ => none
  | k + 1, x0, x1, x19 => if x19 = true then (some (([] : List (S30)), 2)) else (metrolabref31_Thin.l0 k x0 x1 ([] : List (S30)) 0)
def metrolabref31_Thin.l0 : Nat → List (S30) → Int → List (S30) → Int → Option ((List (S30)) × Int)
  | 0, _, _, _, _ => none
  | k + 1, x0, x1, x7, x8 => if x8 < (x0.length : Int) then (if 0 ≤ x8 then ((metrolabref31_far.f k x7 ((rd_T30 x0 x8).f0) ((rd_T30 x0 x8).f1) ((rd_T30 x0 x8).f2) x1).bind fun t446 => (if t446 = true then (if x7.length < 5864062014805 then (metrolabref31_Thin.l0 k x0 x1 (x7 ++ [(⟨(rd_T30 x0 x8).f0, (rd_T30 x0 x8).f1, (rd_T30 x0 x8).f2⟩ : S30)]) (wrap64 (x8 + 1))) else (none)) else (metrolabref31_Thin.l0 k x0 x1 x7 (wrap64 (x8 + 1))))) else (none)) else (some (x7, 0))
end
def metrolabref31_Thin.f (k : Nat) (l0 : List (S30)) (a1 : Int) : Option ((List (S30)) × Int) := (metrolabref07_CheckSpots.f k l0).bind fun t444 => (if t444 = 0 then (if a1 < 0 then (metrolabref31_Thin.j0 k l0 a1 true) else (metrolabref31_Thin.j0 k l0 a1 (decide (a1 > 100000)))) else (some (([] : List (S30)), t444)))
theorem metrolabref31_Thin.mono_l : ∀ k, (∀ y0 y1 y2, LeO (metrolabref31_Thin.j0 k y0 y1 y2) (metrolabref31_Thin.j0 (k + 1) y0 y1 y2)) ∧ (∀ y0 y1 y2 y3, LeO (metrolabref31_Thin.l0 k y0 y1 y2 y3) (metrolabref31_Thin.l0 (k + 1) y0 y1 y2 y3))
  | 0 => ⟨fun _ _ _ r h => by simp [metrolabref31_Thin.j0] at h, fun _ _ _ _ r h => by simp [metrolabref31_Thin.l0] at h⟩
  | k + 1 => by
    obtain ⟨ih0, ih1⟩ := metrolabref31_Thin.mono_l k
    refine ⟨?_, ?_⟩
    · intro y0 y1 y2
      unfold metrolabref31_Thin.j0
      repeat' first
      | (with_reducible exact ih0 _ _ _)
      | (with_reducible exact ih1 _ _ _ _)
      | (with_reducible exact metrolabref07_CheckSpots.mono _ _)
      | (with_reducible exact metrolabref31_far.mono _ _ _ _ _ _)
      | (with_reducible exact LeO.refl _)
      | (with_reducible exact LeO.none _)
      | (with_reducible refine LeO.ite ?_ ?_)
      | (with_reducible refine LeO.bind ?_ (fun _ => ?_))
      | exact ih0 _ _ _
      | exact ih1 _ _ _ _
      | exact metrolabref07_CheckSpots.mono _ _
      | exact metrolabref31_far.mono _ _ _ _ _ _
      | exact LeO.none _
      | refine LeO.ite ?_ ?_
      | refine LeO.bind ?_ (fun _ => ?_)
    · intro y0 y1 y2 y3
      unfold metrolabref31_Thin.l0
      repeat' first
      | (with_reducible exact ih0 _ _ _)
      | (with_reducible exact ih1 _ _ _ _)
      | (with_reducible exact metrolabref07_CheckSpots.mono _ _)
      | (with_reducible exact metrolabref31_far.mono _ _ _ _ _ _)
      | (with_reducible exact LeO.refl _)
      | (with_reducible exact LeO.none _)
      | (with_reducible refine LeO.ite ?_ ?_)
      | (with_reducible refine LeO.bind ?_ (fun _ => ?_))
      | exact ih0 _ _ _
      | exact ih1 _ _ _ _
      | exact metrolabref07_CheckSpots.mono _ _
      | exact metrolabref31_far.mono _ _ _ _ _ _
      | exact LeO.none _
      | refine LeO.ite ?_ ?_
      | refine LeO.bind ?_ (fun _ => ?_)
theorem metrolabref31_Thin.mono : ∀ a0 a1 k, LeO (metrolabref31_Thin.f k a0 a1) (metrolabref31_Thin.f (k + 1) a0 a1) := by
  intro a0 a1 k
  obtain ⟨ih0, ih1⟩ := metrolabref31_Thin.mono_l k
  unfold metrolabref31_Thin.f
  repeat' first
      | (with_reducible exact ih0 _ _ _)
      | (with_reducible exact ih1 _ _ _ _)
      | (with_reducible exact metrolabref07_CheckSpots.mono _ _)
      | (with_reducible exact metrolabref31_far.mono _ _ _ _ _ _)
      | (with_reducible exact LeO.refl _)
      | (with_reducible exact LeO.none _)
      | (with_reducible refine LeO.ite ?_ ?_)
      | (with_reducible refine LeO.bind ?_ (fun _ => ?_))
      | exact ih0 _ _ _
      | exact ih1 _ _ _ _
      | exact metrolabref07_CheckSpots.mono _ _
      | exact metrolabref31_far.mono _ _ _ _ _ _
      | exact LeO.none _
      | refine LeO.ite ?_ ?_
      | refine LeO.bind ?_ (fun _ => ?_)
set_option maxHeartbeats 8000000 in
set_option maxRecDepth 100000 in
theorem metrolabref31_Thin.calls (k : Nat) (A0 : Option Addr) (c0 : Nat) (l0 : List (S30)) (a1 : Int) (r1 : List (S30)) (r2 : Int) (w : World) (hr0 : Kd.C k30 w A0 l0.length l0) (hc0 : l0.length ≤ c0) (h : metrolabref31_Thin.f k l0 a1 = some (r1, r2)) :
    Calls Try.prog 33 #[.slice A0 l0.length c0, .int .i64 a1] w fun e w' => ∃ v0_ : Value, e = .returned (.tuple #[v0_, .int .i64 r2]) ∧ Kd.R k30 30 w' w.heap.size (fun _ => True) v0_ r1 ∧ Below w.heap.size w w' := by
  have hu30 := Try.underlying30
  have HR0 := Aside0.mk hr0
  have HC0 := Aside0.mk hc0
  clear hr0 hc0
  have HB := Aside0.mk (Below.refl w.heap.size w)
  have H : ((metrolabref07_CheckSpots.f k l0).bind fun t444 => (if t444 = 0 then (if a1 < 0 then (metrolabref31_Thin.j0 k l0 a1 true) else (metrolabref31_Thin.j0 k l0 a1 (decide (a1 > 100000)))) else (some (([] : List (S30)), t444)))) = some (r1, r2) := h
  clear h
  replace H := Option.bind_eq_some_iff.mp H
  obtain ⟨t444, A30, H⟩ := H
  replace H : (if t444 = 0 then (if a1 < 0 then (metrolabref31_Thin.j0 k l0 a1 true) else (metrolabref31_Thin.j0 k l0 a1 (decide (a1 > 100000)))) else (some (([] : List (S30)), t444))) = some (r1, r2) := H
  have A3 := Aside0.mk A30
  clear A30
  by_cases c4 : t444 = 0
  · rw [if_pos c4] at H
    have c4b0 : (t444 == 0) = true := beq_iff_eq.mpr c4
    have c4b1 : (t444 != 0) = false := bne_eq_false_iff_eq.mpr c4
    clear c4
    have HC5 := Aside0.mk H
    clear H
    go_enter Try.func33, Try.ntmps33
    go_upto_region 4 with (first | ((with_reducible refine gate_callee (f := 39) rfl ?_); refine goesL_ (some 10) rfl rfl Try.func39 (by kernel_rfl) rfl #[.slice A0 l0.length c0] rfl (by (try simp only [List.map_toArray, List.map_cons, List.map_nil]); first | done | rfl | (simp only [List.length_drop, List.length_take]; rfl)) ?_; (with_reducible refine (metrolabref07_CheckSpots.calls k _ _ l0 t444 _ ?side1 ?side2 A3.out).mono ?_); (case side1 => repeat (first | exact HR0.out | (with_reducible refine Kd.C_alloc ?_ _) | (with_reducible refine Kd.C_drewN ?_ _) | (with_reducible refine Kd.C_drew ?_))); (case side2 => exact HC0.out); rintro e w6 ⟨rfl, hb⟩; refine ⟨_, rfl, ?_⟩; have n0_ := Aside0.mk (below_step (by repeat (first | (with_reducible first | exact HB.out | apply below_alloc | apply pw_below_drewN | apply below_drew1) | exact HB.out)) hb); clear HB; have HB := n0_; clear n0_; (try clear hb); (try clear hb2); (try clear hk); (try clear hi)))
    (try simp only [Act.put, List.setIfInBounds_toArray, List.set_cons_zero, List.set_cons_succ])
    go_cut [19] (fun v19 wc => ∃ (kq : Nat) (x19_4 : Bool), v19 = .bool x19_4 ∧ Aside0 (metrolabref31_Thin.j0 kq l0 a1 x19_4 = some (r1, r2)) ∧ Aside0 (kq ≤ k) ∧ Aside0 (Below w.heap.size w wc))
    case first =>
      have H := HC5.out
      clear HC5
      by_cases c7 : a1 < 0
      · rw [if_pos c7] at H
        have c7b0 : decide (a1 < 0) = true := decide_eq_true c7
        clear c7
        (first | rw [c7b0] | (simp only [i64_w, i32_w]; rw [c7b0]) | skip)
        have H' := Aside0.mk H
        clear H
        go_wp2
        go_meet
        case rel => exact ⟨_, (true), (by first | rfl | (simp; done) | (simp [*]; done)), H', ⟨by first | omega | exact Nat.le_refl _⟩, ⟨by repeat (first | (with_reducible first | exact HB.out | apply below_alloc | apply pw_below_drewN | apply below_drew1) | exact HB.out)⟩⟩
      · rw [if_neg c7] at H
        have c7b0 : decide (a1 < 0) = false := decide_eq_false c7
        clear c7
        (first | rw [c7b0] | (simp only [i64_w, i32_w]; rw [c7b0]) | skip)
        have H' := Aside0.mk H
        clear H
        go_wp2
        go_meet
        case rel => exact ⟨_, (decide (a1 > 100000)), (by first | rfl | (simp; done) | (simp [*]; done)), H', ⟨by first | omega | exact Nat.le_refl _⟩, ⟨by repeat (first | (with_reducible first | exact HB.out | apply below_alloc | apply pw_below_drewN | apply below_drew1) | exact HB.out)⟩⟩
    case rest =>
      clear HC5
      try clear p2
      try clear c3
      try clear c4
      try clear c4b0
      try clear c4b1
      try clear c7
      try clear c7b0
      obtain ⟨kq, x19_4, rfl, HA, HJ4, HB⟩ := hcut
      cases kq with
      | zero => exact absurd HA.out (by simp [metrolabref31_Thin.j0])
      | succ kj4 =>
        have H := HA.out
        clear HA
        simp only [metrolabref31_Thin.j0] at H
        by_cases c8 : x19_4 = true
        · subst c8
          have H1 : (some (([] : List (S30)), 2)) = some (r1, r2) := by rw [if_pos rfl] at H; exact H
          clear H
          have H := H1
          clear H1
          simp only [Option.some.injEq, Prod.mk.injEq] at H
          obtain ⟨rfl, rfl⟩ := H
          go_wp2
          go_ret2
          exact ⟨_, by first | rfl | (simp [errW_none, errW_some] <;> rfl) | (simp [*, errW_none, errW_some] <;> rfl), by first | exact Kd.R_nil _ _ _ _ _ | exact Kd.N_nil _ _ _ _ _ | exact Kd.V_nil _ _ _ _ _ | exact Kd.Q_nil _ _ _ _ _ | exact Kd.S_nil _ _ _ _ _, by repeat (first | (with_reducible first | exact HB.out | apply below_alloc | apply pw_below_drewN | apply below_drew1) | exact HB.out)⟩
        · replace c8 := Bool.eq_false_iff.mpr c8
          subst c8
          have H1 : (metrolabref31_Thin.l0 kj4 l0 a1 ([] : List (S30)) 0) = some (r1, r2) := by rw [if_neg (show ¬ (false = true) by decide)] at H; exact H
          clear H
          have H := H1
          clear H1
          have H' := Aside0.mk H
          clear H
          go_wp2
          go_loopg [7, 8] kj4 (fun kq v7 v8 w' => ∃ (x7_2 : List (S30)) (x8_2 : Int), v8 = .int .i64 x8_2 ∧ Aside0 (metrolabref31_Thin.l0 kq l0 a1 x7_2 x8_2 = some (r1, r2)) ∧ Aside0 (kq ≤ kj4) ∧ Aside0 (Kd.R k30 30 w' w.heap.size (fun _ => True) v7 x7_2) ∧ Aside0 (Below w.heap.size w w'))
          case atStart => exact ⟨(([] : List (S30))), (0), (by first | rfl | (simp; done) | (simp [*]; done)), H', ⟨Nat.le_refl _⟩, ⟨by first | exact Kd.R_nil _ _ _ _ _ | exact Kd.N_nil _ _ _ _ _ | exact Kd.V_nil _ _ _ _ _ | exact Kd.Q_nil _ _ _ _ _ | exact Kd.S_nil _ _ _ _ _⟩, ⟨by repeat (first | (with_reducible first | exact HB.out | apply below_alloc | apply pw_below_drewN | apply below_drew1) | exact HB.out)⟩⟩
          case round =>
            clear H'
            try clear p2
            try clear c3
            try clear c4
            try clear c4b0
            try clear c4b1
            try clear c7
            try clear c7b0
            try clear c8
            try clear p2
            obtain ⟨x7_2, x8_2, rfl, HA, HK2, HO_7, HB⟩ := hrel
            cases gk with
            | zero => exact absurd HA.out (by simp [metrolabref31_Thin.l0])
            | succ k2 =>
              have H := HA.out
              clear HA
              simp only [metrolabref31_Thin.l0] at H
              by_cases c9 : x8_2 < (l0.length : Int)
              · rw [if_pos c9] at H
                have c9b0 : decide (x8_2 < (l0.length : Int)) = true := decide_eq_true c9
                clear c9
                by_cases c10 : 0 ≤ x8_2
                · rw [if_pos c10] at H
                  have c10b0 : decide (0 ≤ x8_2) = true := decide_eq_true c10
                  clear c10
                  replace H := Option.bind_eq_some_iff.mp H
                  obtain ⟨t446, A110, H⟩ := H
                  replace H : (if t446 = true then (if x7_2.length < 5864062014805 then (metrolabref31_Thin.l0 k2 l0 a1 (x7_2 ++ [(⟨(rd_T30 l0 x8_2).f0, (rd_T30 l0 x8_2).f1, (rd_T30 l0 x8_2).f2⟩ : S30)]) (wrap64 (x8_2 + 1))) else (none)) else (metrolabref31_Thin.l0 k2 l0 a1 x7_2 (wrap64 (x8_2 + 1)))) = some (r1, r2) := H
                  have A11 := Aside0.mk A110
                  clear A110
                  by_cases c12 : t446 = true
                  · subst c12
                    have H1 : (if x7_2.length < 5864062014805 then (metrolabref31_Thin.l0 k2 l0 a1 (x7_2 ++ [(⟨(rd_T30 l0 x8_2).f0, (rd_T30 l0 x8_2).f1, (rd_T30 l0 x8_2).f2⟩ : S30)]) (wrap64 (x8_2 + 1))) else (none)) = some (r1, r2) := by rw [if_pos rfl] at H; exact H
                    clear H
                    have H := H1
                    clear H1
                    by_cases c13 : x7_2.length < 5864062014805
                    · rw [if_pos c13] at H
                      have LMc13 := Aside0.mk c13
                      clear c13
                      obtain ⟨y448, hy448⟩ : ∃ y_ : List (S30), y_ = (x7_2 ++ [(⟨(rd_T30 l0 x8_2).f0, (rd_T30 l0 x8_2).f1, (rd_T30 l0 x8_2).f2⟩ : S30)]) := ⟨_, rfl⟩
                      replace H : (metrolabref31_Thin.l0 k2 l0 a1 y448 (wrap64 (x8_2 + 1))) = some (r1, r2) := by first | (rw [hy448]; with_reducible exact H) | (have H2_ := (Option.bind_some _ _).symm.trans H; rw [hy448]; with_reducible exact H2_) | (have H2_ := (Option.bind_some _ _).symm.trans H; with_reducible exact H2_) | with_reducible exact H | (rw [hy448]; exact H) | exact H
                      have Ny448 := Aside0.mk hy448
                      clear hy448
                      have H' := Aside0.mk H
                      clear H
                      have p445 : 0 ≤ (x8_2 : Int) := of_decide_eq_true (by first | (with_reducible assumption) | assumption)
                      have q445 : x8_2 < (l0.length : Int) := of_decide_eq_true (by first | (with_reducible assumption) | assumption)
                      obtain ⟨ad445, e445, hx445_0, hx445_1, hx445_2⟩ := at_T30 HR0.out x8_2 p445 q445
                      cases e445
                      replace hx445_0 := (HB.out.cell (World.block_lt_of_cell? w _ hx445_0)).trans hx445_0
                      replace hx445_1 := (HB.out.cell (World.block_lt_of_cell? w _ hx445_1)).trans hx445_1
                      replace hx445_2 := (HB.out.cell (World.block_lt_of_cell? w _ hx445_2)).trans hx445_2
                      replace p445 := eq_true p445
                      replace q445 := eq_true q445
                      obtain ⟨Ao14, co14, eo14⟩ := Kd.R_slice HO_7.out
                      subst eo14
                      go_wp2_with (first | ((with_reducible refine gate_callee (f := 73) rfl ?_); refine goesL_ (some 32) rfl rfl Try.func73 (by kernel_rfl) rfl #[.slice Ao14 x7_2.length co14, .agg #[.int .i64 ((rd_T30 l0 x8_2).f0), .int .i64 ((rd_T30 l0 x8_2).f1), .int .i64 ((rd_T30 l0 x8_2).f2)], .int .i64 a1] rfl (by (try simp only [List.map_toArray, List.map_cons, List.map_nil]); first | done | rfl | (simp only [List.length_drop, List.length_take]; rfl)) ?_; (with_reducible refine (metrolabref31_far.calls k2 _ _ x7_2 ((rd_T30 l0 x8_2).f0) ((rd_T30 l0 x8_2).f1) ((rd_T30 l0 x8_2).f2) a1 true _ ?side1 ?side2 A11.out).mono ?_); (case side1 => repeat (first | exact (Kd.R_reads' HO_7.out).2.2 | (with_reducible refine Kd.C_alloc ?_ _) | (with_reducible refine Kd.C_drewN ?_ _) | (with_reducible refine Kd.C_drew ?_))); (case side2 => exact (Kd.R_reads' HO_7.out).2.1); rintro e w15 ⟨rfl, hb⟩; refine ⟨_, rfl, ?_⟩; have n0_ := Aside0.mk (Kd.R_below (by (with_reducible repeat (first | apply Kd.R_alloc | apply Kd.R_drewN | apply Kd.R_drew)); exact HO_7.out) hb); have n1_ := Aside0.mk (below_step (by repeat (first | (with_reducible first | exact HB.out | apply below_alloc | apply pw_below_drewN | apply below_drew1) | exact HB.out)) hb); clear HO_7; clear HB; have HO_7 := n0_; have HB := n1_; clear n0_ n1_; (try clear hb); (try clear hb2); (try clear hk); (try clear hi); have p447 : 0 ≤ (x8_2 : Int) := of_decide_eq_true (by first | (with_reducible assumption) | assumption); have q447 : x8_2 < (l0.length : Int) := of_decide_eq_true (by first | (with_reducible assumption) | assumption); obtain ⟨ad447, e447, hx447_0, hx447_1, hx447_2⟩ := at_T30 HR0.out x8_2 p447 q447; obtain rfl : ad445 = ad447 := (by injection e447); replace hx447_0 := (HB.out.cell (World.block_lt_of_cell? w _ hx447_0)).trans hx447_0; replace hx447_1 := (HB.out.cell (World.block_lt_of_cell? w _ hx447_1)).trans hx447_1; replace hx447_2 := (HB.out.cell (World.block_lt_of_cell? w _ hx447_2)).trans hx447_2; replace p447 := eq_true p447; replace q447 := eq_true q447) | ((with_reducible refine gate_builtin (b := .append) (xs := #[.tmp 33, .tmp 38]) rfl ?_); at_builtin; refine Kd.R_append k30 (w0 := w) w.heap.size rfl (.tmp 33) (.tmp 38) 22 30 (.agg #[(.int .i64 0), (.int .i64 0), (.int .i64 0)]) 24 rfl Try.underlying22 info30 rfl (by decide) (by omega) (.slice Ao14 x7_2.length co14) x7_2 (⟨(rd_T30 l0 x8_2).f0, (rd_T30 l0 x8_2).f1, (rd_T30 l0 x8_2).f2⟩ : S30) [.int .i64 ((rd_T30 l0 x8_2).f0), .int .i64 ((rd_T30 l0 x8_2).f1), .int .i64 ((rd_T30 l0 x8_2).f2)] (fun _ => True) (fun _ => False) rfl rfl ?aP (fun _ hk => hk.elim) ?aF ?aO ?aB ?aS ?aL ?_; (case aP => exact k30_mkM _ _ _ (⟨(rd_T30 l0 x8_2).f0, (rd_T30 l0 x8_2).f1, (rd_T30 l0 x8_2).f2⟩ : S30)); (case aB => exact (by repeat (first | (with_reducible first | exact HB.out | apply below_alloc | apply pw_below_drewN | apply below_drew1) | exact HB.out))); (case aF => exact (fun _ _ => trivial)); (case aO => exact (by (with_reducible repeat (first | apply Kd.R_alloc | apply Kd.R_drewN | apply Kd.R_drew)); exact HO_7.out)); (case aS => exact (below_size (by repeat (first | (with_reducible first | exact HB.out | apply below_alloc | apply pw_below_drewN | apply below_drew1) | exact HB.out)))); (case aL => have := LMc13.out; omega); intro v449 w16 ho hb hg hat; rw [← Ny448.out] at ho; have n0_ := Aside0.mk (hb); have n1_ := Aside0.mk (ho); clear HB; clear HO_7; have HB := n0_; have HO450 := n1_; clear n0_ n1_; clear ho hb hg hat))
                      go_roundg k2
                      case measure => have := HJ4.out; have := HK2.out; omega
                      case rel => exact ⟨(y448), (wrap64 (x8_2 + 1)), (by first | rfl | (simp; done) | (simp [*]; done)), H', ⟨by have := HJ4.out; have := HK2.out; omega⟩, ⟨by (with_reducible repeat (first | apply Kd.R_alloc | apply Kd.R_drewN | apply Kd.R_drew)); exact HO450.out⟩, ⟨by repeat (first | (with_reducible first | exact HB.out | apply below_alloc | apply pw_below_drewN | apply below_drew1) | exact HB.out)⟩⟩
                    · rw [if_neg c13] at H
                      exact absurd H (by simp)
                  · replace c12 := Bool.eq_false_iff.mpr c12
                    subst c12
                    have H1 : (metrolabref31_Thin.l0 k2 l0 a1 x7_2 (wrap64 (x8_2 + 1))) = some (r1, r2) := by rw [if_neg (show ¬ (false = true) by decide)] at H; exact H
                    clear H
                    have H := H1
                    clear H1
                    have H' := Aside0.mk H
                    clear H
                    have p445 : 0 ≤ (x8_2 : Int) := of_decide_eq_true (by first | (with_reducible assumption) | assumption)
                    have q445 : x8_2 < (l0.length : Int) := of_decide_eq_true (by first | (with_reducible assumption) | assumption)
                    obtain ⟨ad445, e445, hx445_0, hx445_1, hx445_2⟩ := at_T30 HR0.out x8_2 p445 q445
                    cases e445
                    replace hx445_0 := (HB.out.cell (World.block_lt_of_cell? w _ hx445_0)).trans hx445_0
                    replace hx445_1 := (HB.out.cell (World.block_lt_of_cell? w _ hx445_1)).trans hx445_1
                    replace hx445_2 := (HB.out.cell (World.block_lt_of_cell? w _ hx445_2)).trans hx445_2
                    replace p445 := eq_true p445
                    replace q445 := eq_true q445
                    obtain ⟨Ao17, co17, eo17⟩ := Kd.R_slice HO_7.out
                    subst eo17
                    go_wp2_with (first | ((with_reducible refine gate_callee (f := 73) rfl ?_); refine goesL_ (some 32) rfl rfl Try.func73 (by kernel_rfl) rfl #[.slice Ao17 x7_2.length co17, .agg #[.int .i64 ((rd_T30 l0 x8_2).f0), .int .i64 ((rd_T30 l0 x8_2).f1), .int .i64 ((rd_T30 l0 x8_2).f2)], .int .i64 a1] rfl (by (try simp only [List.map_toArray, List.map_cons, List.map_nil]); first | done | rfl | (simp only [List.length_drop, List.length_take]; rfl)) ?_; (with_reducible refine (metrolabref31_far.calls k2 _ _ x7_2 ((rd_T30 l0 x8_2).f0) ((rd_T30 l0 x8_2).f1) ((rd_T30 l0 x8_2).f2) a1 false _ ?side1 ?side2 A11.out).mono ?_); (case side1 => repeat (first | exact (Kd.R_reads' HO_7.out).2.2 | (with_reducible refine Kd.C_alloc ?_ _) | (with_reducible refine Kd.C_drewN ?_ _) | (with_reducible refine Kd.C_drew ?_))); (case side2 => exact (Kd.R_reads' HO_7.out).2.1); rintro e w18 ⟨rfl, hb⟩; refine ⟨_, rfl, ?_⟩; have n0_ := Aside0.mk (Kd.R_below (by (with_reducible repeat (first | apply Kd.R_alloc | apply Kd.R_drewN | apply Kd.R_drew)); exact HO_7.out) hb); have n1_ := Aside0.mk (below_step (by repeat (first | (with_reducible first | exact HB.out | apply below_alloc | apply pw_below_drewN | apply below_drew1) | exact HB.out)) hb); clear HO_7; clear HB; have HO_7 := n0_; have HB := n1_; clear n0_ n1_; (try clear hb); (try clear hb2); (try clear hk); (try clear hi)))
                    go_roundg k2
                    case measure => have := HJ4.out; have := HK2.out; omega
                    case rel => exact ⟨(x7_2), (wrap64 (x8_2 + 1)), (by first | rfl | (simp; done) | (simp [*]; done)), H', ⟨by have := HJ4.out; have := HK2.out; omega⟩, ⟨by (with_reducible repeat (first | apply Kd.R_alloc | apply Kd.R_drewN | apply Kd.R_drew)); exact HO_7.out⟩, ⟨by repeat (first | (with_reducible first | exact HB.out | apply below_alloc | apply pw_below_drewN | apply below_drew1) | exact HB.out)⟩⟩
                · rw [if_neg c10] at H
                  exact absurd H (by simp)
              · rw [if_neg c9] at H
                have c9b0 : decide (x8_2 < (l0.length : Int)) = false := decide_eq_false c9
                clear c9
                simp only [Option.some.injEq, Prod.mk.injEq] at H
                obtain ⟨rfl, rfl⟩ := H
                go_wp2
                go_ret2
                exact ⟨_, by first | rfl | (simp [errW_none, errW_some] <;> rfl) | (simp [*, errW_none, errW_some] <;> rfl), by (with_reducible repeat (first | apply Kd.R_alloc | apply Kd.R_drewN | apply Kd.R_drew)); exact HO_7.out, by repeat (first | (with_reducible first | exact HB.out | apply below_alloc | apply pw_below_drewN | apply below_drew1) | exact HB.out)⟩
  · rw [if_neg c4] at H
    have c4b0 : (t444 == 0) = false := beq_eq_false_iff_ne.mpr c4
    have c4b1 : (t444 != 0) = true := bne_iff_ne.mpr c4
    simp only [Option.some.injEq, Prod.mk.injEq] at H
    obtain ⟨rfl, rfl⟩ := H
    go_enter Try.func33, Try.ntmps33
    go_wp2_with (first | ((with_reducible refine gate_callee (f := 39) rfl ?_); refine goesL_ (some 10) rfl rfl Try.func39 (by kernel_rfl) rfl #[.slice A0 l0.length c0] rfl (by (try simp only [List.map_toArray, List.map_cons, List.map_nil]); first | done | rfl | (simp only [List.length_drop, List.length_take]; rfl)) ?_; (with_reducible refine (metrolabref07_CheckSpots.calls k _ _ l0 t444 _ ?side1 ?side2 A3.out).mono ?_); (case side1 => repeat (first | exact HR0.out | (with_reducible refine Kd.C_alloc ?_ _) | (with_reducible refine Kd.C_drewN ?_ _) | (with_reducible refine Kd.C_drew ?_))); (case side2 => exact HC0.out); rintro e w19 ⟨rfl, hb⟩; refine ⟨_, rfl, ?_⟩; have n0_ := Aside0.mk (below_step (by repeat (first | (with_reducible first | exact HB.out | apply below_alloc | apply pw_below_drewN | apply below_drew1) | exact HB.out)) hb); clear HB; have HB := n0_; clear n0_; (try clear hb); (try clear hb2); (try clear hk); (try clear hi)))
    go_ret2
    exact ⟨_, by first | rfl | (simp [errW_none, errW_some] <;> rfl) | (simp [*, errW_none, errW_some] <;> rfl), by first | exact Kd.R_nil _ _ _ _ _ | exact Kd.N_nil _ _ _ _ _ | exact Kd.V_nil _ _ _ _ _ | exact Kd.Q_nil _ _ _ _ _ | exact Kd.S_nil _ _ _ _ _, by repeat (first | (with_reducible first | exact HB.out | apply below_alloc | apply pw_below_drewN | apply below_drew1) | exact HB.out)⟩

end Go.Proofs.Ytgfkodanekfekaa.X

-- Made by wip/xprint.py for this claim: the kit's printer over the translation, with hand-proved functions in their places. Lean checks it.
import Derived.Test.YtgfkodanekfekaaX0
namespace Go.Proofs.Ytgfkodanekfekaa.X
open Go.RowKit Go.Proofs.YtgfkodanekfekaaW.PrintWords Go.Proofs.YtgfkodanekfekaaW.PrintLast Go.Proofs.YtgfkodanekfekaaW.PrintMore
attribute [local go_sem] max2_int min2_int max_two min_two max_three min_three max_four min_four   -- for this text's walks alone
set_option linter.unusedVariables false
set_option linter.unusedSimpArgs false

/-! ### metrolabref07_in: function 80 -/
def metrolabref07_in.f (a0 : Int) : Option (Bool) := if a0 ≥ (-100000) then (some (decide (a0 ≤ 100000))) else (some false)
set_option maxHeartbeats 8000000 in
set_option maxRecDepth 100000 in
theorem metrolabref07_in.calls (a0 : Int) (r : Bool) (w : World) (h : metrolabref07_in.f a0 = some r) :
    Calls Try.prog 80 #[.int .i64 a0] w fun e w' => e = .returned (.bool r) ∧ Drawn0 w w' := by
  have H : (if a0 ≥ (-100000) then (some (decide (a0 ≤ 100000))) else (some false)) = some r := h
  clear h
  by_cases c2 : a0 ≥ (-100000)
  · rw [if_pos c2] at H
    have c2b0 : decide ((-100000) ≤ a0) = true := decide_eq_true c2
    clear c2
    obtain rfl := Option.some.inj H
    go_enter Try.func80, Try.ntmps80
    go_wp2
    go_ret
    exact ⟨by first | rfl | (simp; done) | (simp [*]; done), by repeat (first | exact Drawn0.refl _ | apply Drawn0.step)⟩
  · rw [if_neg c2] at H
    have c2b0 : decide ((-100000) ≤ a0) = false := decide_eq_false c2
    clear c2
    obtain rfl := Option.some.inj H
    go_enter Try.func80, Try.ntmps80
    go_wp2
    go_ret
    exact ⟨by first | rfl | (simp; done) | (simp [*]; done), by repeat (first | exact Drawn0.refl _ | apply Drawn0.step)⟩

-- NOT PRINTED: function 43 (api_Spot_43)

/-! ### vector_within: function 77 -/
def vector_within.f (a0 : Int) : Option (Bool) := if a0 ≥ (-100000) then (some (decide (a0 ≤ 100000))) else (some false)
set_option maxHeartbeats 8000000 in
set_option maxRecDepth 100000 in
theorem vector_within.calls (a0 : Int) (r : Bool) (w : World) (h : vector_within.f a0 = some r) :
    Calls Try.prog 77 #[.int .i64 a0] w fun e w' => e = .returned (.bool r) ∧ Drawn0 w w' := by
  have H : (if a0 ≥ (-100000) then (some (decide (a0 ≤ 100000))) else (some false)) = some r := h
  clear h
  by_cases c2 : a0 ≥ (-100000)
  · rw [if_pos c2] at H
    have c2b0 : decide ((-100000) ≤ a0) = true := decide_eq_true c2
    clear c2
    obtain rfl := Option.some.inj H
    go_enter Try.func77, Try.ntmps77
    go_wp2
    go_ret
    exact ⟨by first | rfl | (simp; done) | (simp [*]; done), by repeat (first | exact Drawn0.refl _ | apply Drawn0.step)⟩
  · rw [if_neg c2] at H
    have c2b0 : decide ((-100000) ≤ a0) = false := decide_eq_false c2
    clear c2
    obtain rfl := Option.some.inj H
    go_enter Try.func77, Try.ntmps77
    go_wp2
    go_ret
    exact ⟨by first | rfl | (simp; done) | (simp [*]; done), by repeat (first | exact Drawn0.refl _ | apply Drawn0.step)⟩

/-! ### vector_high: function 44 -/
def vector_high.f (a0_0 : Int) (a0_1 : Int) (a0_2 : Int) : Option (Bool) := (vector_within.f a0_0).bind fun t109 => (if t109 = true then ((vector_within.f a0_1).bind fun t110 => (if t110 = true then ((vector_within.f a0_2).bind fun t111 => (some t111)) else (some false))) else (some false))
set_option maxHeartbeats 8000000 in
set_option maxRecDepth 100000 in
theorem vector_high.calls (a0_0 : Int) (a0_1 : Int) (a0_2 : Int) (r : Bool) (w : World) (h : vector_high.f a0_0 a0_1 a0_2 = some r) :
    Calls Try.prog 44 #[.agg #[.int .i64 a0_0, .int .i64 a0_1, .int .i64 a0_2]] w fun e w' => e = .returned (.bool r) ∧ Below w.heap.size w w' := by
  have hu30 := Try.underlying30
  have HB := Aside0.mk (Below.refl w.heap.size w)
  have H : ((vector_within.f a0_0).bind fun t109 => (if t109 = true then ((vector_within.f a0_1).bind fun t110 => (if t110 = true then ((vector_within.f a0_2).bind fun t111 => (some t111)) else (some false))) else (some false))) = some r := h
  clear h
  replace H := Option.bind_eq_some_iff.mp H
  obtain ⟨t109, A20, H⟩ := H
  replace H : (if t109 = true then ((vector_within.f a0_1).bind fun t110 => (if t110 = true then ((vector_within.f a0_2).bind fun t111 => (some t111)) else (some false))) else (some false)) = some r := H
  have A2 := Aside0.mk A20
  clear A20
  by_cases c3 : t109 = true
  · subst c3
    have H1 : ((vector_within.f a0_1).bind fun t110 => (if t110 = true then ((vector_within.f a0_2).bind fun t111 => (some t111)) else (some false))) = some r := by rw [if_pos rfl] at H; exact H
    clear H
    have H := H1
    clear H1
    replace H := Option.bind_eq_some_iff.mp H
    obtain ⟨t110, A40, H⟩ := H
    replace H : (if t110 = true then ((vector_within.f a0_2).bind fun t111 => (some t111)) else (some false)) = some r := H
    have A4 := Aside0.mk A40
    clear A40
    by_cases c5 : t110 = true
    · subst c5
      have H1 : ((vector_within.f a0_2).bind fun t111 => (some t111)) = some r := by rw [if_pos rfl] at H; exact H
      clear H
      have H := H1
      clear H1
      replace H := Option.bind_eq_some_iff.mp H
      obtain ⟨t111, A60, H⟩ := H
      replace H : (some t111) = some r := H
      have A6 := Aside0.mk A60
      clear A60
      obtain rfl := Option.some.inj H
      go_enter Try.func44, Try.ntmps44
      go_wp2_with (first | ((with_reducible refine gate_dst (N := 1) rfl ?_); refine box_event ?hg (N := 1) ?hd (cs := #[.int .i64 a0_0, .int .i64 a0_1, .int .i64 a0_2]) (t := 30) ?hr ?_; (case hd => rfl); (case hg => rfl); (case hr => first | (go_simp; done) | (go_simp; rfl)); intro gb108 hg w7 hbox hb; have n0_ := Aside0.mk (below_step (by repeat (first | (with_reducible first | exact HB.out | apply below_alloc | apply pw_below_drewN | apply below_drew1) | exact HB.out)) hb); have n1_ := Aside0.mk (hbox); have n2_ := Aside0.mk ((by rw [hg]; exact (below_size (by repeat (first | (with_reducible first | exact HB.out | apply below_alloc | apply pw_below_drewN | apply below_drew1) | exact HB.out))) : w.heap.size ≤ gb108)); have n3_ := Aside0.mk ((by rw [hg]; exact (below_size (by repeat (first | (with_reducible first | exact HB.out | apply below_alloc | apply pw_below_drewN | apply below_drew1) | exact HB.out))) : w.heap.size ≤ gb108)); clear HB; have HB := n0_; have BK108 := n1_; have GW108 := n2_; have GE108 := n3_; clear n0_ n1_ n2_ n3_; clear hb hbox hg; have hcz8_0 : w7.cell? ⟨gb108, 0, none⟩ = some (.int .i64 a0_0) := (blk_cell BK108.out 0).trans rfl; have hcz8_1 : w7.cell? ⟨gb108, 1, none⟩ = some (.int .i64 a0_1) := (blk_cell BK108.out 1).trans rfl; have hcz8_2 : w7.cell? ⟨gb108, 2, none⟩ = some (.int .i64 a0_2) := (blk_cell BK108.out 2).trans rfl; have hfz8_0 := blk_frozen BK108.out 0; have hfz8_1 := blk_frozen BK108.out 1; have hfz8_2 := blk_frozen BK108.out 2) | ((with_reducible refine gate_callee (f := 77) rfl ?_); refine goesL_ (some 5) rfl rfl Try.func77 (by kernel_rfl) rfl #[.int .i64 a0_0] rfl (by (try simp only [List.map_toArray, List.map_cons, List.map_nil]); first | done | rfl | (simp only [List.length_drop, List.length_take]; rfl)) ?_; (with_reducible refine (vector_within.calls a0_0 true _ A2.out).mono ?_); rintro e w' ⟨rfl, ⟨nd, rfl⟩⟩; refine ⟨_, rfl, ?_⟩) | (go_at_call 77; (with_reducible refine (vector_within.calls a0_1 true _ A4.out).mono ?_); rintro e w' ⟨rfl, ⟨nd, rfl⟩⟩) | (go_at_call 77; (with_reducible refine (vector_within.calls a0_2 t111 _ A6.out).mono ?_); rintro e w' ⟨rfl, ⟨nd, rfl⟩⟩))
      go_ret
      exact ⟨by first | rfl | (simp [errW_none, errW_some] <;> rfl) | (simp [*, errW_none, errW_some] <;> rfl), by repeat (first | (with_reducible first | exact HB.out | apply below_alloc | apply pw_below_drewN | apply below_drew1 | refine below_set ?_ GE108.out) | exact HB.out)⟩
    · replace c5 := Bool.eq_false_iff.mpr c5
      subst c5
      have H1 : (some false) = some r := by rw [if_neg (show ¬ (false = true) by decide)] at H; exact H
      clear H
      have H := H1
      clear H1
      obtain rfl := Option.some.inj H
      go_enter Try.func44, Try.ntmps44
      go_wp2_with (first | ((with_reducible refine gate_dst (N := 1) rfl ?_); refine box_event ?hg (N := 1) ?hd (cs := #[.int .i64 a0_0, .int .i64 a0_1, .int .i64 a0_2]) (t := 30) ?hr ?_; (case hd => rfl); (case hg => rfl); (case hr => first | (go_simp; done) | (go_simp; rfl)); intro gb108 hg w9 hbox hb; have n0_ := Aside0.mk (below_step (by repeat (first | (with_reducible first | exact HB.out | apply below_alloc | apply pw_below_drewN | apply below_drew1) | exact HB.out)) hb); have n1_ := Aside0.mk (hbox); have n2_ := Aside0.mk ((by rw [hg]; exact (below_size (by repeat (first | (with_reducible first | exact HB.out | apply below_alloc | apply pw_below_drewN | apply below_drew1) | exact HB.out))) : w.heap.size ≤ gb108)); have n3_ := Aside0.mk ((by rw [hg]; exact (below_size (by repeat (first | (with_reducible first | exact HB.out | apply below_alloc | apply pw_below_drewN | apply below_drew1) | exact HB.out))) : w.heap.size ≤ gb108)); clear HB; have HB := n0_; have BK108 := n1_; have GW108 := n2_; have GE108 := n3_; clear n0_ n1_ n2_ n3_; clear hb hbox hg; have hcz10_0 : w9.cell? ⟨gb108, 0, none⟩ = some (.int .i64 a0_0) := (blk_cell BK108.out 0).trans rfl; have hcz10_1 : w9.cell? ⟨gb108, 1, none⟩ = some (.int .i64 a0_1) := (blk_cell BK108.out 1).trans rfl; have hcz10_2 : w9.cell? ⟨gb108, 2, none⟩ = some (.int .i64 a0_2) := (blk_cell BK108.out 2).trans rfl; have hfz10_0 := blk_frozen BK108.out 0; have hfz10_1 := blk_frozen BK108.out 1; have hfz10_2 := blk_frozen BK108.out 2) | ((with_reducible refine gate_callee (f := 77) rfl ?_); refine goesL_ (some 5) rfl rfl Try.func77 (by kernel_rfl) rfl #[.int .i64 a0_0] rfl (by (try simp only [List.map_toArray, List.map_cons, List.map_nil]); first | done | rfl | (simp only [List.length_drop, List.length_take]; rfl)) ?_; (with_reducible refine (vector_within.calls a0_0 true _ A2.out).mono ?_); rintro e w' ⟨rfl, ⟨nd, rfl⟩⟩; refine ⟨_, rfl, ?_⟩) | (go_at_call 77; (with_reducible refine (vector_within.calls a0_1 false _ A4.out).mono ?_); rintro e w' ⟨rfl, ⟨nd, rfl⟩⟩))
      go_ret
      exact ⟨by first | rfl | (simp [errW_none, errW_some] <;> rfl) | (simp [*, errW_none, errW_some] <;> rfl), by repeat (first | (with_reducible first | exact HB.out | apply below_alloc | apply pw_below_drewN | apply below_drew1 | refine below_set ?_ GE108.out) | exact HB.out)⟩
  · replace c3 := Bool.eq_false_iff.mpr c3
    subst c3
    have H1 : (some false) = some r := by rw [if_neg (show ¬ (false = true) by decide)] at H; exact H
    clear H
    have H := H1
    clear H1
    obtain rfl := Option.some.inj H
    go_enter Try.func44, Try.ntmps44
    go_wp2_with (first | ((with_reducible refine gate_dst (N := 1) rfl ?_); refine box_event ?hg (N := 1) ?hd (cs := #[.int .i64 a0_0, .int .i64 a0_1, .int .i64 a0_2]) (t := 30) ?hr ?_; (case hd => rfl); (case hg => rfl); (case hr => first | (go_simp; done) | (go_simp; rfl)); intro gb108 hg w11 hbox hb; have n0_ := Aside0.mk (below_step (by repeat (first | (with_reducible first | exact HB.out | apply below_alloc | apply pw_below_drewN | apply below_drew1) | exact HB.out)) hb); have n1_ := Aside0.mk (hbox); have n2_ := Aside0.mk ((by rw [hg]; exact (below_size (by repeat (first | (with_reducible first | exact HB.out | apply below_alloc | apply pw_below_drewN | apply below_drew1) | exact HB.out))) : w.heap.size ≤ gb108)); have n3_ := Aside0.mk ((by rw [hg]; exact (below_size (by repeat (first | (with_reducible first | exact HB.out | apply below_alloc | apply pw_below_drewN | apply below_drew1) | exact HB.out))) : w.heap.size ≤ gb108)); clear HB; have HB := n0_; have BK108 := n1_; have GW108 := n2_; have GE108 := n3_; clear n0_ n1_ n2_ n3_; clear hb hbox hg; have hcz12_0 : w11.cell? ⟨gb108, 0, none⟩ = some (.int .i64 a0_0) := (blk_cell BK108.out 0).trans rfl; have hcz12_1 : w11.cell? ⟨gb108, 1, none⟩ = some (.int .i64 a0_1) := (blk_cell BK108.out 1).trans rfl; have hcz12_2 : w11.cell? ⟨gb108, 2, none⟩ = some (.int .i64 a0_2) := (blk_cell BK108.out 2).trans rfl; have hfz12_0 := blk_frozen BK108.out 0; have hfz12_1 := blk_frozen BK108.out 1; have hfz12_2 := blk_frozen BK108.out 2) | ((with_reducible refine gate_callee (f := 77) rfl ?_); refine goesL_ (some 5) rfl rfl Try.func77 (by kernel_rfl) rfl #[.int .i64 a0_0] rfl (by (try simp only [List.map_toArray, List.map_cons, List.map_nil]); first | done | rfl | (simp only [List.length_drop, List.length_take]; rfl)) ?_; (with_reducible refine (vector_within.calls a0_0 false _ A2.out).mono ?_); rintro e w' ⟨rfl, ⟨nd, rfl⟩⟩; refine ⟨_, rfl, ?_⟩))
    go_ret
    exact ⟨by first | rfl | (simp [errW_none, errW_some] <;> rfl) | (simp [*, errW_none, errW_some] <;> rfl), by repeat (first | (with_reducible first | exact HB.out | apply below_alloc | apply pw_below_drewN | apply below_drew1 | refine below_set ?_ GE108.out) | exact HB.out)⟩

-- NOT PRINTED: function 75 (api_Spot_75)

/-! ### vector_CheckSpots: function 40, proved by hand -/
def inRangeSpot (n : Int) : Bool := decide (-100000 ≤ n) && decide (n ≤ 100000)
/-- a right Spot -/
def okSpot (p : S30) : Bool := inRangeSpot p.f0 && inRangeSpot p.f1 && inRangeSpot p.f2
theorem vector_high_eq (p : S30) : vector_high.f p.f0 p.f1 p.f2 = some (okSpot p) := by
  unfold vector_high.f vector_within.f okSpot inRangeSpot
  grind
def allSpot (l : List S30) : Int := if l.all okSpot then 0 else 2
theorem rd_mem_Spot (l : List S30) (i : Nat) (h : i < l.length) : rd_T30 l i ∈ l := by
  unfold rd_T30
  rw [List.getD_eq_getElem?_getD, Int.toNat_natCast, List.getElem?_eq_getElem h]
  exact List.getElem_mem _
theorem all_rd_Spot (l : List S30) (p : S30 → Bool) (h : ∀ j : Nat, j < l.length → p (rd_T30 l j) = true) : l.all p = true := by
  rw [List.all_eq_true]
  intro x hx
  obtain ⟨j, hj, rfl⟩ := List.getElem_of_mem hx
  have := h j hj
  unfold rd_T30 at this
  rwa [List.getD_eq_getElem?_getD, Int.toNat_natCast, List.getElem?_eq_getElem hj] at this
set_option maxHeartbeats 8000000 in
set_option maxRecDepth 100000 in
theorem allSpot_calls (A0 : Option Addr) (c0 : Nat) (l0 : List S30) (w : World) (hr0 : Kd.C k30 w A0 l0.length l0) (hl : l0.length ≤ 9223372036854775807) :
    Calls Try.prog 43 #[.func (.func 44) #[] #[], .slice A0 l0.length c0] w fun e w' => e = .returned (.int .i64 (allSpot l0)) ∧ Below w.heap.size w w' := by
  have hu25 := Try.underlying30
  have HR0 := Aside0.mk hr0
  clear hr0
  have HB := Aside0.mk (Below.refl w.heap.size w)
  go_enter Try.func43, Try.ntmps43
  go_wp2
  go_loopw [9] (fun v9 w' => ∃ i : Nat, i ≤ l0.length ∧ v9 = .int .i64 i ∧ Aside0 (∀ j : Nat, j < i → okSpot (rd_T30 l0 j) = true) ∧ Aside0 (Below w.heap.size w w')) (fun v9 _ => l0.length - (intOf v9).toNat)
  case atStart => exact ⟨0, Nat.zero_le _, rfl, ⟨fun j hj => absurd hj (by omega)⟩, ⟨HB.out⟩⟩
  case round =>
    obtain ⟨i, hi, rfl, HA, HB1⟩ := hrel
    by_cases hlt : i < l0.length
    · obtain ⟨ad, rfl, h1, h2, h3⟩ := at_T30 (Kd.C_below HR0.out HB1.out) i (by omega) (by omega)
      have hp := vector_high_eq (rd_T30 l0 i)
      have HP := Aside0.mk hp
      clear hp
      have hsz := HB1.out.size
      simp only [Int.toNat_natCast] at h1 h2 h3
      cases hk : okSpot (rd_T30 l0 i)
      · have HK := Aside0.mk hk
        clear hk
        go_wp2_with (go_at_call 44; refine (vector_high.calls _ _ _ _ _ (HP.out.trans (congrArg some HK.out))).mono ?_; rintro e w' ⟨rfl, hb⟩)
        go_ret
        have hall : allSpot l0 = 2 := by
          unfold allSpot
          rw [if_neg]
          intro hh
          have := List.all_eq_true.mp hh (rd_T30 l0 i) (rd_mem_Spot l0 i hlt)
          rw [HK.out] at this; exact absurd this (by decide)
        refine ⟨by rw [hall]; rfl, ?_⟩
        exact below_then (HB1.out.alloc hsz _) (by simp; omega) hb
      · have HK := Aside0.mk hk
        clear hk
        go_wp2_with (go_at_call 44; refine (vector_high.calls _ _ _ _ _ (HP.out.trans (congrArg some HK.out))).mono ?_; rintro e w' ⟨rfl, hb⟩)
        go_roundw
        case rel =>
          refine ⟨i + 1, by omega, by go_num, ⟨fun j hj => ?_⟩, ⟨below_then (HB1.out.alloc hsz _) (by simp; omega) hb⟩⟩
          by_cases e : j = i
          · subst e; exact HK.out
          · exact HA.out j (by omega)
        case measure => simp [intOf]; omega
    · go_wp2
      go_ret
      have hall : allSpot l0 = 0 := by
        unfold allSpot
        rw [if_pos]
        exact all_rd_Spot l0 _ (fun j hj => HA.out j (by omega))
      exact ⟨by rw [hall]; rfl, HB1.out⟩
def vector_CheckSpots.f (l0 : List S30) : Option Int := some (if l0.length > 64 then 5 else allSpot l0)
set_option maxHeartbeats 8000000 in
set_option maxRecDepth 100000 in
theorem checkedSpot_calls (A0 : Option Addr) (c0 : Nat) (l0 : List S30) (r : Int) (w : World) (hr0 : Kd.C k30 w A0 l0.length l0) (h : vector_CheckSpots.f l0 = some r) :
    Calls Try.prog 75 #[.slice A0 l0.length c0, .func (.func 44) #[] #[]] w fun e w' => e = .returned (.int .i64 r) ∧ Below w.heap.size w w' := by
  obtain rfl := Option.some.inj h
  have HR0 := Aside0.mk hr0
  clear hr0 h
  by_cases hl : 64 < l0.length
  · have he : (if l0.length > 64 then 5 else allSpot l0) = 5 := if_pos hl
    rw [he]
    clear he
    go_enter Try.func75, Try.ntmps75
    go_wp2
    go_ret
    exact ⟨rfl, Below.refl _ _⟩
  · have he : (if l0.length > 64 then 5 else allSpot l0) = allSpot l0 := if_neg hl
    rw [he]
    clear he
    have hg : decide (64 < (l0.length : Int)) = false := decide_eq_false (by omega)
    go_enter Try.func75, Try.ntmps75
    go_wp2_with (go_at_call 43; refine (allSpot_calls _ _ _ _ HR0.out (by omega)).mono ?_; rintro e w' ⟨rfl, hb⟩)
    go_ret
    exact ⟨rfl, hb⟩
set_option maxHeartbeats 8000000 in
set_option maxRecDepth 100000 in
theorem vector_CheckSpots.calls (A0 : Option Addr) (c0 : Nat) (l0 : List S30) (r : Int) (w : World) (hr0 : Kd.C k30 w A0 l0.length l0) (hc0 : l0.length ≤ c0) (h : vector_CheckSpots.f l0 = some r) :
    Calls Try.prog 40 #[.slice A0 l0.length c0] w fun e w' => e = .returned (.int .i64 r) ∧ Below w.heap.size w w' := by
  have HR0 := Aside0.mk hr0
  have H := Aside0.mk h
  clear hr0 h
  go_enter Try.func40, Try.ntmps40
  go_wp2_with (go_at_call 75; refine (checkedSpot_calls _ _ _ _ _ HR0.out H.out).mono ?_; rintro e w' ⟨rfl, hb⟩)
  go_ret
  exact ⟨rfl, hb⟩

/-! ### vector_reach: function 45 -/
def vector_reach.f (a0_0 : Int) (a0_1 : Int) (a0_2 : Int) (a1_0 : Int) (a1_1 : Int) (a1_2 : Int) : Option (Int × Int × Int) := some (wrap64 (a1_0 - a0_0), wrap64 (a1_1 - a0_1), wrap64 (a1_2 - a0_2))
set_option maxHeartbeats 8000000 in
set_option maxRecDepth 100000 in
theorem vector_reach.calls (a0_0 : Int) (a0_1 : Int) (a0_2 : Int) (a1_0 : Int) (a1_1 : Int) (a1_2 : Int) (r1 : Int) (r2 : Int) (r3 : Int) (w : World) (h : vector_reach.f a0_0 a0_1 a0_2 a1_0 a1_1 a1_2 = some (r1, r2, r3)) :
    Calls Try.prog 45 #[.agg #[.int .i64 a0_0, .int .i64 a0_1, .int .i64 a0_2], .agg #[.int .i64 a1_0, .int .i64 a1_1, .int .i64 a1_2]] w fun e w' => e = .returned (.agg #[.int .i64 r1, .int .i64 r2, .int .i64 r3]) ∧ Below w.heap.size w w' := by
  have hu30 := Try.underlying30
  have hu75 := Try.underlying75
  have HB := Aside0.mk (Below.refl w.heap.size w)
  have H : (some (wrap64 (a1_0 - a0_0), wrap64 (a1_1 - a0_1), wrap64 (a1_2 - a0_2))) = some (r1, r2, r3) := h
  clear h
  simp only [Option.some.injEq, Prod.mk.injEq] at H
  obtain ⟨rfl, rfl, rfl⟩ := H
  go_enter Try.func45, Try.ntmps45
  go_wp2_with (first | ((with_reducible refine gate_dst (N := 2) rfl ?_); refine box_event ?hg (N := 2) ?hd (cs := #[.int .i64 a0_0, .int .i64 a0_1, .int .i64 a0_2]) (t := 30) ?hr ?_; (case hd => rfl); (case hg => rfl); (case hr => first | (go_simp; done) | (go_simp; rfl)); intro gb112 hg w3 hbox hb; have n0_ := Aside0.mk (below_step (by repeat (first | (with_reducible first | exact HB.out | apply below_alloc | apply pw_below_drewN | apply below_drew1) | exact HB.out)) hb); have n1_ := Aside0.mk (hbox); have n2_ := Aside0.mk ((by rw [hg]; exact (below_size (by repeat (first | (with_reducible first | exact HB.out | apply below_alloc | apply pw_below_drewN | apply below_drew1) | exact HB.out))) : w.heap.size ≤ gb112)); have n3_ := Aside0.mk ((by rw [hg]; exact (below_size (by repeat (first | (with_reducible first | exact HB.out | apply below_alloc | apply pw_below_drewN | apply below_drew1) | exact HB.out))) : w.heap.size ≤ gb112)); clear HB; have HB := n0_; have BK112 := n1_; have GW112 := n2_; have GE112 := n3_; clear n0_ n1_ n2_ n3_; clear hb hbox hg) | ((with_reducible refine gate_dst (N := 3) rfl ?_); refine box_event ?hg (N := 3) ?hd (cs := #[.int .i64 a1_0, .int .i64 a1_1, .int .i64 a1_2]) (t := 30) ?hr ?_; (case hd => rfl); (case hg => rfl); (case hr => first | (go_simp; done) | (go_simp; rfl)); intro gb113 hg w4 hbox hb; have n0_ := Aside0.mk (blk_below (g := gb112) (o := .cells #[.int .i64 a0_0, .int .i64 a0_1, .int .i64 a0_2] 30 (0, 0)) (by (with_reducible repeat (first | refine blk_drewN ?_ _ | refine blk_drew ?_ | refine blk_alloc ?_ _)); exact BK112.out) hb); have n1_ := Aside0.mk (below_step (by repeat (first | (with_reducible first | exact HB.out | apply below_alloc | apply pw_below_drewN | apply below_drew1 | refine below_set ?_ GE112.out) | exact HB.out)) hb); have n2_ := Aside0.mk (hbox); have n3_ := Aside0.mk ((by rw [hg]; exact (below_size (by repeat (first | (with_reducible first | exact HB.out | apply below_alloc | apply pw_below_drewN | apply below_drew1 | refine below_set ?_ GE112.out) | exact HB.out))) : w.heap.size ≤ gb113)); have n4_ := Aside0.mk ((by rw [hg]; exact (below_size (by repeat (first | (with_reducible first | exact HB.out | apply below_alloc | apply pw_below_drewN | apply below_drew1 | refine below_set ?_ GE112.out) | exact HB.out))) : w.heap.size ≤ gb113)); have n5_ := Aside0.mk ((by rw [hg]; exact Nat.ne_of_lt (blk_lt (g := gb112) (o := .cells #[.int .i64 a0_0, .int .i64 a0_1, .int .i64 a0_2] 30 (0, 0)) (by (with_reducible repeat (first | refine blk_drewN ?_ _ | refine blk_drew ?_ | refine blk_alloc ?_ _)); exact BK112.out)) : gb112 ≠ gb113)); have n6_ := Aside0.mk ((by rw [hg]; exact Nat.ne_of_gt (blk_lt (g := gb112) (o := .cells #[.int .i64 a0_0, .int .i64 a0_1, .int .i64 a0_2] 30 (0, 0)) (by (with_reducible repeat (first | refine blk_drewN ?_ _ | refine blk_drew ?_ | refine blk_alloc ?_ _)); exact BK112.out)) : gb113 ≠ gb112)); clear BK112; clear HB; have BK112 := n0_; have HB := n1_; have BK113 := n2_; have GW113 := n3_; have GE113 := n4_; have NB112_113 := n5_; have NB113_112 := n6_; clear n0_ n1_ n2_ n3_ n4_ n5_ n6_; clear hb hbox hg) | ((with_reducible refine gate_dst (N := 4) rfl ?_); refine box_event ?hg (N := 4) ?hd (cs := #[.int .i64 0, .int .i64 0, .int .i64 0]) (t := 75) ?hr ?_; (case hd => rfl); (case hg => rfl); (case hr => first | (go_simp; done) | (go_simp; rfl)); intro gb114 hg w5 hbox hb; have n0_ := Aside0.mk (blk_below (g := gb112) (o := .cells #[.int .i64 a0_0, .int .i64 a0_1, .int .i64 a0_2] 30 (0, 0)) (by (with_reducible repeat (first | refine blk_drewN ?_ _ | refine blk_drew ?_ | refine blk_alloc ?_ _)); exact BK112.out) hb); have n1_ := Aside0.mk (blk_below (g := gb113) (o := .cells #[.int .i64 a1_0, .int .i64 a1_1, .int .i64 a1_2] 30 (0, 0)) (by (with_reducible repeat (first | refine blk_drewN ?_ _ | refine blk_drew ?_ | refine blk_alloc ?_ _)); exact BK113.out) hb); have n2_ := Aside0.mk (below_step (by repeat (first | (with_reducible first | exact HB.out | apply below_alloc | apply pw_below_drewN | apply below_drew1 | refine below_set ?_ GE112.out | refine below_set ?_ GE113.out) | exact HB.out)) hb); have n3_ := Aside0.mk (hbox); have n4_ := Aside0.mk ((by rw [hg]; exact (below_size (by repeat (first | (with_reducible first | exact HB.out | apply below_alloc | apply pw_below_drewN | apply below_drew1 | refine below_set ?_ GE112.out | refine below_set ?_ GE113.out) | exact HB.out))) : w.heap.size ≤ gb114)); have n5_ := Aside0.mk ((by rw [hg]; exact (below_size (by repeat (first | (with_reducible first | exact HB.out | apply below_alloc | apply pw_below_drewN | apply below_drew1 | refine below_set ?_ GE112.out | refine below_set ?_ GE113.out) | exact HB.out))) : w.heap.size ≤ gb114)); have n6_ := Aside0.mk ((by rw [hg]; exact Nat.ne_of_lt (blk_lt (g := gb112) (o := .cells #[.int .i64 a0_0, .int .i64 a0_1, .int .i64 a0_2] 30 (0, 0)) (by (with_reducible repeat (first | refine blk_drewN ?_ _ | refine blk_drew ?_ | refine blk_alloc ?_ _)); exact BK112.out)) : gb112 ≠ gb114)); have n7_ := Aside0.mk ((by rw [hg]; exact Nat.ne_of_gt (blk_lt (g := gb112) (o := .cells #[.int .i64 a0_0, .int .i64 a0_1, .int .i64 a0_2] 30 (0, 0)) (by (with_reducible repeat (first | refine blk_drewN ?_ _ | refine blk_drew ?_ | refine blk_alloc ?_ _)); exact BK112.out)) : gb114 ≠ gb112)); have n8_ := Aside0.mk ((by rw [hg]; exact Nat.ne_of_lt (blk_lt (g := gb113) (o := .cells #[.int .i64 a1_0, .int .i64 a1_1, .int .i64 a1_2] 30 (0, 0)) (by (with_reducible repeat (first | refine blk_drewN ?_ _ | refine blk_drew ?_ | refine blk_alloc ?_ _)); exact BK113.out)) : gb113 ≠ gb114)); have n9_ := Aside0.mk ((by rw [hg]; exact Nat.ne_of_gt (blk_lt (g := gb113) (o := .cells #[.int .i64 a1_0, .int .i64 a1_1, .int .i64 a1_2] 30 (0, 0)) (by (with_reducible repeat (first | refine blk_drewN ?_ _ | refine blk_drew ?_ | refine blk_alloc ?_ _)); exact BK113.out)) : gb114 ≠ gb113)); clear BK112; clear BK113; clear HB; have BK112 := n0_; have BK113 := n1_; have HB := n2_; have BK114 := n3_; have GW114 := n4_; have GE114 := n5_; have NB112_114 := n6_; have NB114_112 := n7_; have NB113_114 := n8_; have NB114_113 := n9_; clear n0_ n1_ n2_ n3_ n4_ n5_ n6_ n7_ n8_ n9_; clear hb hbox hg; have hnb6 := NB113_112.out; have hnc6 := NB112_113.out; have hnb7 := NB113_114.out; have hnc7 := NB114_113.out; have hcz8_0 : w5.cell? ⟨gb113, 0, none⟩ = some (.int .i64 a1_0) := (blk_cell BK113.out 0).trans rfl; have hcz8_1 : w5.cell? ⟨gb113, 1, none⟩ = some (.int .i64 a1_1) := (blk_cell BK113.out 1).trans rfl; have hcz8_2 : w5.cell? ⟨gb113, 2, none⟩ = some (.int .i64 a1_2) := (blk_cell BK113.out 2).trans rfl; have hfz8_0 := blk_frozen BK113.out 0; have hfz8_1 := blk_frozen BK113.out 1; have hfz8_2 := blk_frozen BK113.out 2; have hnb9 := NB112_114.out; have hnc9 := NB114_112.out; have hcz10_0 : w5.cell? ⟨gb112, 0, none⟩ = some (.int .i64 a0_0) := (blk_cell BK112.out 0).trans rfl; have hcz10_1 : w5.cell? ⟨gb112, 1, none⟩ = some (.int .i64 a0_1) := (blk_cell BK112.out 1).trans rfl; have hcz10_2 : w5.cell? ⟨gb112, 2, none⟩ = some (.int .i64 a0_2) := (blk_cell BK112.out 2).trans rfl; have hfz10_0 := blk_frozen BK112.out 0; have hfz10_1 := blk_frozen BK112.out 1; have hfz10_2 := blk_frozen BK112.out 2; have hcz11_0 : w5.cell? ⟨gb114, 0, none⟩ = some (.int .i64 0) := (blk_cell BK114.out 0).trans rfl; have hcz11_1 : w5.cell? ⟨gb114, 1, none⟩ = some (.int .i64 0) := (blk_cell BK114.out 1).trans rfl; have hcz11_2 : w5.cell? ⟨gb114, 2, none⟩ = some (.int .i64 0) := (blk_cell BK114.out 2).trans rfl; have hfz11_0 := blk_frozen BK114.out 0; have hfz11_1 := blk_frozen BK114.out 1; have hfz11_2 := blk_frozen BK114.out 2))
  refine bodyPost_ret (results_cell_row rfl _ _ gb114 75 #[.int .i64 (wrap64 (a1_0 - a0_0)), .int .i64 (wrap64 (a1_1 - a0_1)), .int .i64 (wrap64 (a1_2 - a0_2))] (0, 0) _ rfl (by (with_reducible repeat (first | refine blk_drewN ?_ _ | refine blk_drew ?_ | refine blk_alloc ?_ _)); refine blk_put (cs := #[.int .i64 (wrap64 (a1_0 - a0_0)), .int .i64 (wrap64 (a1_1 - a0_1)), .int .i64 0]) ?_ 2 _ rfl; (with_reducible repeat (first | refine blk_drewN ?_ _ | refine blk_drew ?_ | refine blk_alloc ?_ _)); refine blk_put (cs := #[.int .i64 (wrap64 (a1_0 - a0_0)), .int .i64 0, .int .i64 0]) ?_ 1 _ rfl; (with_reducible repeat (first | refine blk_drewN ?_ _ | refine blk_drew ?_ | refine blk_alloc ?_ _)); refine blk_put (cs := #[.int .i64 0, .int .i64 0, .int .i64 0]) ?_ 0 _ rfl; (with_reducible repeat (first | refine blk_drewN ?_ _ | refine blk_drew ?_ | refine blk_alloc ?_ _)); exact BK114.out) Try.underlying75 rfl (by kernel_rfl)) rfl ?_
  exact ⟨by first | rfl | (simp [errW_none, errW_some] <;> rfl) | (simp [*, errW_none, errW_some] <;> rfl), by repeat (first | (with_reducible first | exact HB.out | apply below_alloc | apply pw_below_drewN | apply below_drew1 | refine below_set ?_ GE112.out | refine below_set ?_ GE113.out | refine below_set ?_ GE114.out) | exact HB.out)⟩

/-! ### vector_beam_dot: function 46 -/
def vector_beam_dot.f (a0_0 : Int) (a0_1 : Int) (a0_2 : Int) (a1_0 : Int) (a1_1 : Int) (a1_2 : Int) : Option (Int) := some (wrap64 ((wrap64 ((wrap64 (a0_0 * a1_0)) + (wrap64 (a0_1 * a1_1)))) + (wrap64 (a0_2 * a1_2))))
set_option maxHeartbeats 8000000 in
set_option maxRecDepth 100000 in
theorem vector_beam_dot.calls (a0_0 : Int) (a0_1 : Int) (a0_2 : Int) (a1_0 : Int) (a1_1 : Int) (a1_2 : Int) (r : Int) (w : World) (h : vector_beam_dot.f a0_0 a0_1 a0_2 a1_0 a1_1 a1_2 = some r) :
    Calls Try.prog 46 #[.agg #[.int .i64 a0_0, .int .i64 a0_1, .int .i64 a0_2], .agg #[.int .i64 a1_0, .int .i64 a1_1, .int .i64 a1_2]] w fun e w' => e = .returned (.int .i64 r) ∧ Below w.heap.size w w' := by
  have hu75 := Try.underlying75
  have HB := Aside0.mk (Below.refl w.heap.size w)
  have H : (some (wrap64 ((wrap64 ((wrap64 (a0_0 * a1_0)) + (wrap64 (a0_1 * a1_1)))) + (wrap64 (a0_2 * a1_2))))) = some r := h
  clear h
  obtain rfl := Option.some.inj H
  go_enter Try.func46, Try.ntmps46
  go_wp2_with (first | ((with_reducible refine gate_dst (N := 2) rfl ?_); refine box_event ?hg (N := 2) ?hd (cs := #[.int .i64 a0_0, .int .i64 a0_1, .int .i64 a0_2]) (t := 75) ?hr ?_; (case hd => rfl); (case hg => rfl); (case hr => first | (go_simp; done) | (go_simp; rfl)); intro gb115 hg w3 hbox hb; have n0_ := Aside0.mk (below_step (by repeat (first | (with_reducible first | exact HB.out | apply below_alloc | apply pw_below_drewN | apply below_drew1) | exact HB.out)) hb); have n1_ := Aside0.mk (hbox); have n2_ := Aside0.mk ((by rw [hg]; exact (below_size (by repeat (first | (with_reducible first | exact HB.out | apply below_alloc | apply pw_below_drewN | apply below_drew1) | exact HB.out))) : w.heap.size ≤ gb115)); have n3_ := Aside0.mk ((by rw [hg]; exact (below_size (by repeat (first | (with_reducible first | exact HB.out | apply below_alloc | apply pw_below_drewN | apply below_drew1) | exact HB.out))) : w.heap.size ≤ gb115)); clear HB; have HB := n0_; have BK115 := n1_; have GW115 := n2_; have GE115 := n3_; clear n0_ n1_ n2_ n3_; clear hb hbox hg) | ((with_reducible refine gate_dst (N := 3) rfl ?_); refine box_event ?hg (N := 3) ?hd (cs := #[.int .i64 a1_0, .int .i64 a1_1, .int .i64 a1_2]) (t := 75) ?hr ?_; (case hd => rfl); (case hg => rfl); (case hr => first | (go_simp; done) | (go_simp; rfl)); intro gb116 hg w4 hbox hb; have n0_ := Aside0.mk (blk_below (g := gb115) (o := .cells #[.int .i64 a0_0, .int .i64 a0_1, .int .i64 a0_2] 75 (0, 0)) (by (with_reducible repeat (first | refine blk_drewN ?_ _ | refine blk_drew ?_ | refine blk_alloc ?_ _)); exact BK115.out) hb); have n1_ := Aside0.mk (below_step (by repeat (first | (with_reducible first | exact HB.out | apply below_alloc | apply pw_below_drewN | apply below_drew1 | refine below_set ?_ GE115.out) | exact HB.out)) hb); have n2_ := Aside0.mk (hbox); have n3_ := Aside0.mk ((by rw [hg]; exact (below_size (by repeat (first | (with_reducible first | exact HB.out | apply below_alloc | apply pw_below_drewN | apply below_drew1 | refine below_set ?_ GE115.out) | exact HB.out))) : w.heap.size ≤ gb116)); have n4_ := Aside0.mk ((by rw [hg]; exact (below_size (by repeat (first | (with_reducible first | exact HB.out | apply below_alloc | apply pw_below_drewN | apply below_drew1 | refine below_set ?_ GE115.out) | exact HB.out))) : w.heap.size ≤ gb116)); have n5_ := Aside0.mk ((by rw [hg]; exact Nat.ne_of_lt (blk_lt (g := gb115) (o := .cells #[.int .i64 a0_0, .int .i64 a0_1, .int .i64 a0_2] 75 (0, 0)) (by (with_reducible repeat (first | refine blk_drewN ?_ _ | refine blk_drew ?_ | refine blk_alloc ?_ _)); exact BK115.out)) : gb115 ≠ gb116)); have n6_ := Aside0.mk ((by rw [hg]; exact Nat.ne_of_gt (blk_lt (g := gb115) (o := .cells #[.int .i64 a0_0, .int .i64 a0_1, .int .i64 a0_2] 75 (0, 0)) (by (with_reducible repeat (first | refine blk_drewN ?_ _ | refine blk_drew ?_ | refine blk_alloc ?_ _)); exact BK115.out)) : gb116 ≠ gb115)); clear BK115; clear HB; have BK115 := n0_; have HB := n1_; have BK116 := n2_; have GW116 := n3_; have GE116 := n4_; have NB115_116 := n5_; have NB116_115 := n6_; clear n0_ n1_ n2_ n3_ n4_ n5_ n6_; clear hb hbox hg; have hnb5 := NB115_116.out; have hnc5 := NB116_115.out; have hcz6_0 : w4.cell? ⟨gb115, 0, none⟩ = some (.int .i64 a0_0) := (blk_cell BK115.out 0).trans rfl; have hcz6_1 : w4.cell? ⟨gb115, 1, none⟩ = some (.int .i64 a0_1) := (blk_cell BK115.out 1).trans rfl; have hcz6_2 : w4.cell? ⟨gb115, 2, none⟩ = some (.int .i64 a0_2) := (blk_cell BK115.out 2).trans rfl; have hfz6_0 := blk_frozen BK115.out 0; have hfz6_1 := blk_frozen BK115.out 1; have hfz6_2 := blk_frozen BK115.out 2; have hcz7_0 : w4.cell? ⟨gb116, 0, none⟩ = some (.int .i64 a1_0) := (blk_cell BK116.out 0).trans rfl; have hcz7_1 : w4.cell? ⟨gb116, 1, none⟩ = some (.int .i64 a1_1) := (blk_cell BK116.out 1).trans rfl; have hcz7_2 : w4.cell? ⟨gb116, 2, none⟩ = some (.int .i64 a1_2) := (blk_cell BK116.out 2).trans rfl; have hfz7_0 := blk_frozen BK116.out 0; have hfz7_1 := blk_frozen BK116.out 1; have hfz7_2 := blk_frozen BK116.out 2))
  go_ret
  exact ⟨by first | rfl | (simp [errW_none, errW_some] <;> rfl) | (simp [*, errW_none, errW_some] <;> rfl), by repeat (first | (with_reducible first | exact HB.out | apply below_alloc | apply pw_below_drewN | apply below_drew1 | refine below_set ?_ GE115.out | refine below_set ?_ GE116.out) | exact HB.out)⟩

/-! ### vector_SquareSpace: function 15, proved by hand -/
-- USES vector_CheckSpots
def vector_SquareSpace.f (a b c x y z : Int) : Option (Int × Int) := if okSpot ⟨a, b, c⟩ && okSpot ⟨x, y, z⟩ then (vector_reach.f a b c x y z).bind fun v => (vector_beam_dot.f v.1 v.2.1 v.2.2 v.1 v.2.1 v.2.2).bind fun d => some (d, 0) else some (0, 2)
/-- a new row of two spots -/
theorem two_spots (W : World) (a b c x y z : Int) :
    Kd.C k30 (W.alloc (.cells #[.int .i64 a, .int .i64 b, .int .i64 c, .int .i64 x, .int .i64 y, .int .i64 z] 30)) (some ⟨W.heap.size, 0, none⟩) ([⟨a, b, c⟩, ⟨x, y, z⟩] : List S30).length ([⟨a, b, c⟩, ⟨x, y, z⟩] : List S30) := by
  have hh := heap_alloc_new W (.cells #[.int .i64 a, .int .i64 b, .int .i64 c, .int .i64 x, .int .i64 y, .int .i64 z] 30)
  refine ⟨rfl, by simp, fun _ => ⟨_, rfl, fun j p hp => ?_⟩⟩
  match j, hp with
  | 0, hp =>
    simp at hp; subst hp
    refine ⟨[.int .i64 a, .int .i64 b, .int .i64 c], rfl, k30_mk _ _, fun i u hu => ?_⟩
    match i, hu with
    | 0, hu => simp at hu; subst hu; exact (blk_cell hh 0).trans rfl
    | 1, hu => simp at hu; subst hu; exact (blk_cell hh 1).trans rfl
    | 2, hu => simp at hu; subst hu; exact (blk_cell hh 2).trans rfl
    | i + 3, hu => simp at hu
  | 1, hp =>
    simp at hp; subst hp
    refine ⟨[.int .i64 x, .int .i64 y, .int .i64 z], rfl, k30_mk _ _, fun i u hu => ?_⟩
    match i, hu with
    | 0, hu => simp at hu; subst hu; exact (blk_cell hh 3).trans rfl
    | 1, hu => simp at hu; subst hu; exact (blk_cell hh 4).trans rfl
    | 2, hu => simp at hu; subst hu; exact (blk_cell hh 5).trans rfl
    | i + 3, hu => simp at hu
  | j + 2, hp => simp at hp
theorem sq_cells (w w1 : World) (a b c x y z : Int) {B : Nat} (hb : Below B (((w.alloc (.cells #[.int .i64 a, .int .i64 b, .int .i64 c] 30)).alloc (.cells #[.int .i64 x, .int .i64 y, .int .i64 z] 30)).alloc (.cells #[.int .i64 a, .int .i64 b, .int .i64 c, .int .i64 x, .int .i64 y, .int .i64 z] 30)) w1) (hB : w.heap.size + 3 ≤ B := by simp [World.size_alloc]) :
    w1.cell? ⟨w.heap.size, 0, none⟩ = some (.int .i64 a) ∧ w1.cell? ⟨w.heap.size, 1, none⟩ = some (.int .i64 b) ∧ w1.cell? ⟨w.heap.size, 2, none⟩ = some (.int .i64 c) ∧ w1.cell? ⟨w.heap.size + 1, 0, none⟩ = some (.int .i64 x) ∧ w1.cell? ⟨w.heap.size + 1, 1, none⟩ = some (.int .i64 y) ∧ w1.cell? ⟨w.heap.size + 1, 2, none⟩ = some (.int .i64 z) := by
  have h1 : w1.heap[w.heap.size]? = some (.cells #[.int .i64 a, .int .i64 b, .int .i64 c] 30 (0, 0)) := (hb.block w.heap.size (by omega)).trans (blk_alloc (blk_alloc (heap_alloc_new w _) _) _)
  have h2 : w1.heap[w.heap.size + 1]? = some (.cells #[.int .i64 x, .int .i64 y, .int .i64 z] 30 (0, 0)) := (hb.block (w.heap.size + 1) (by omega)).trans (blk_alloc (by have := heap_alloc_new (w.alloc (.cells #[.int .i64 a, .int .i64 b, .int .i64 c] 30)) (.cells #[.int .i64 x, .int .i64 y, .int .i64 z] 30); rw [World.size_alloc] at this; exact this) _)
  exact ⟨(blk_cell h1 0).trans rfl, (blk_cell h1 1).trans rfl, (blk_cell h1 2).trans rfl, (blk_cell h2 0).trans rfl, (blk_cell h2 1).trans rfl, (blk_cell h2 2).trans rfl⟩
set_option maxHeartbeats 8000000 in
set_option maxRecDepth 100000 in
theorem vector_SquareSpace.calls (a b c x y z : Int) (r1 r2 : Int) (w : World) (h : vector_SquareSpace.f a b c x y z = some (r1, r2)) :
    Calls Try.prog 15 #[.agg #[.int .i64 a, .int .i64 b, .int .i64 c], .agg #[.int .i64 x, .int .i64 y, .int .i64 z]] w fun e w' => e = .returned (.tuple #[.int .i64 r1, .int .i64 r2]) ∧ Below w.heap.size w w' := by
  unfold vector_SquareSpace.f at h
  have h2 := two_spots ((w.alloc (.cells #[.int .i64 a, .int .i64 b, .int .i64 c] 30)).alloc (.cells #[.int .i64 x, .int .i64 y, .int .i64 z] 30)) a b c x y z
  rw [World.size_alloc, World.size_alloc] at h2
  have h3 := allSpot_calls _ 2 _ _ h2 (by simp)
  have HB0 := Aside0.mk ((((Below.refl w.heap.size w).alloc (Nat.le_refl _) (.cells #[.int .i64 a, .int .i64 b, .int .i64 c] 30)).alloc (by simp) (.cells #[.int .i64 x, .int .i64 y, .int .i64 z] 30)).alloc (by simp; omega) (.cells #[.int .i64 a, .int .i64 b, .int .i64 c, .int .i64 x, .int .i64 y, .int .i64 z] 30))
  clear h2
  by_cases hk : (okSpot ⟨a, b, c⟩ && okSpot ⟨x, y, z⟩) = true
  · rw [if_pos hk] at h
    rw [show allSpot [⟨a, b, c⟩, ⟨x, y, z⟩] = 0 from by unfold allSpot; rw [if_pos (by simpa using hk)]] at h3
    have H3 := Aside0.mk h3
    obtain ⟨⟨d0, d1, d2⟩, hre, h⟩ := Option.bind_eq_some_iff.mp h
    obtain ⟨d, hdo, h⟩ := Option.bind_eq_some_iff.mp h
    obtain ⟨rfl, rfl⟩ := Prod.mk.inj (Option.some.inj h)
    have HRE := Aside0.mk hre
    have HDO := Aside0.mk hdo
    clear h h3 hk hre hdo
    go_enter Try.func15, Try.ntmps15
    go_wp2_with (first
      | (go_at_call 43; refine H3.out.mono ?_; rintro e w1 ⟨rfl, hb1⟩; have hx := sq_cells w w1 a b c x y z hb1; have hx0 := hx.1; have hx1 := hx.2.1; have hx2 := hx.2.2.1; have hx3 := hx.2.2.2.1; have hx4 := hx.2.2.2.2.1; have hx5 := hx.2.2.2.2.2; clear hx)
      | (go_at_call 45; refine (vector_reach.calls a b c x y z d0 d1 d2 _ HRE.out).mono ?_; rintro e w2 ⟨rfl, hb2⟩)
      | (go_at_call 46; refine (vector_beam_dot.calls d0 d1 d2 d0 d1 d2 d _ HDO.out).mono ?_; rintro e w3 ⟨rfl, hb3⟩))
    go_ret2
    have HB1 := HB0.out.trans (hb1.mono HB0.out.size)
    have HB2 := HB1.trans (hb2.mono HB1.size)
    have HB3 := HB2.alloc HB2.size (.cells #[.int .i64 d0, .int .i64 d1, .int .i64 d2] 75)
    exact ⟨rfl, HB3.trans (hb3.mono HB3.size)⟩
  · rw [if_neg hk] at h
    obtain ⟨rfl, rfl⟩ := Prod.mk.inj (Option.some.inj h)
    rw [show allSpot [⟨a, b, c⟩, ⟨x, y, z⟩] = 2 from by unfold allSpot; rw [if_neg (by simpa using hk)]] at h3
    have H3 := Aside0.mk h3
    clear h hk h3
    go_enter Try.func15, Try.ntmps15
    go_wp2_with (go_at_call 43; refine H3.out.mono ?_; rintro e w1 ⟨rfl, hb1⟩)
    go_ret2
    exact ⟨rfl, HB0.out.trans (hb1.mono HB0.out.size)⟩

-- NOT PRINTED: function 76 (api_Spot_76)

-- NOT PRINTED: function 41 (api_Spot_41)

/-! ### points_axes: function 64 -/
def points_axes.f (a0 : Int) : Option (Int) := if a0 < 0 then (some 1) else (if a0 ≥ 3 then (some 1) else (some 0))
set_option maxHeartbeats 8000000 in
set_option maxRecDepth 100000 in
theorem points_axes.calls (a0 : Int) (r : Int) (w : World) (h : points_axes.f a0 = some r) :
    Calls Try.prog 64 #[.int .i64 a0] w fun e w' => e = .returned (.int .i64 r) ∧ Drawn0 w w' := by
  have H : (if a0 < 0 then (some 1) else (if a0 ≥ 3 then (some 1) else (some 0))) = some r := h
  clear h
  by_cases c2 : a0 < 0
  · rw [if_pos c2] at H
    have c2b0 : decide (a0 < 0) = true := decide_eq_true c2
    clear c2
    obtain rfl := Option.some.inj H
    go_enter Try.func64, Try.ntmps64
    go_wp2
    go_ret
    exact ⟨by first | rfl | (simp; done) | (simp [*]; done), by repeat (first | exact Drawn0.refl _ | apply Drawn0.step)⟩
  · rw [if_neg c2] at H
    have c2b0 : decide (a0 < 0) = false := decide_eq_false c2
    clear c2
    by_cases c3 : a0 ≥ 3
    · rw [if_pos c3] at H
      have c3b0 : decide (3 ≤ a0) = true := decide_eq_true c3
      clear c3
      obtain rfl := Option.some.inj H
      go_enter Try.func64, Try.ntmps64
      go_wp2
      go_ret
      exact ⟨by first | rfl | (simp; done) | (simp [*]; done), by repeat (first | exact Drawn0.refl _ | apply Drawn0.step)⟩
    · rw [if_neg c3] at H
      have c3b0 : decide (3 ≤ a0) = false := decide_eq_false c3
      clear c3
      obtain rfl := Option.some.inj H
      go_enter Try.func64, Try.ntmps64
      go_wp2
      go_ret
      exact ⟨by first | rfl | (simp; done) | (simp [*]; done), by repeat (first | exact Drawn0.refl _ | apply Drawn0.step)⟩

/-! ### points_along: function 47 -/
def points_along.f (l0 : List (S30)) (a1 : Int) : Option (Int) := (vector_CheckSpots.f l0).bind fun t117 => (if t117 = 0 then ((points_axes.f a1).bind fun t118 => (some t118)) else (some t117))
set_option maxHeartbeats 8000000 in
set_option maxRecDepth 100000 in
theorem points_along.calls (A0 : Option Addr) (c0 : Nat) (l0 : List (S30)) (a1 : Int) (r : Int) (w : World) (hr0 : Kd.C k30 w A0 l0.length l0) (hc0 : l0.length ≤ c0) (h : points_along.f l0 a1 = some r) :
    Calls Try.prog 47 #[.slice A0 l0.length c0, .int .i64 a1] w fun e w' => e = .returned (.int .i64 r) ∧ Below w.heap.size w w' := by
  have HR0 := Aside0.mk hr0
  have HC0 := Aside0.mk hc0
  clear hr0 hc0
  have HB := Aside0.mk (Below.refl w.heap.size w)
  have H : ((vector_CheckSpots.f l0).bind fun t117 => (if t117 = 0 then ((points_axes.f a1).bind fun t118 => (some t118)) else (some t117))) = some r := h
  clear h
  replace H := Option.bind_eq_some_iff.mp H
  obtain ⟨t117, A30, H⟩ := H
  replace H : (if t117 = 0 then ((points_axes.f a1).bind fun t118 => (some t118)) else (some t117)) = some r := H
  have A3 := Aside0.mk A30
  clear A30
  by_cases c4 : t117 = 0
  · rw [if_pos c4] at H
    have c4b0 : (t117 == 0) = true := beq_iff_eq.mpr c4
    have c4b1 : (t117 != 0) = false := bne_eq_false_iff_eq.mpr c4
    clear c4
    replace H := Option.bind_eq_some_iff.mp H
    obtain ⟨t118, A50, H⟩ := H
    replace H : (some t118) = some r := H
    have A5 := Aside0.mk A50
    clear A50
    obtain rfl := Option.some.inj H
    go_enter Try.func47, Try.ntmps47
    go_wp2_with (first | ((with_reducible refine gate_callee (f := 40) rfl ?_); refine goesL_ (some 7) rfl rfl Try.func40 (by kernel_rfl) rfl #[.slice A0 l0.length c0] rfl (by (try simp only [List.map_toArray, List.map_cons, List.map_nil]); first | done | rfl | (simp only [List.length_drop, List.length_take]; rfl)) ?_; (with_reducible refine (vector_CheckSpots.calls _ _ l0 t117 _ ?side1 ?side2 A3.out).mono ?_); (case side1 => repeat (first | exact HR0.out | (with_reducible refine Kd.C_alloc ?_ _) | (with_reducible refine Kd.C_drewN ?_ _) | (with_reducible refine Kd.C_drew ?_))); (case side2 => exact HC0.out); rintro e w6 ⟨rfl, hb⟩; refine ⟨_, rfl, ?_⟩; have n0_ := Aside0.mk (below_step (by repeat (first | (with_reducible first | exact HB.out | apply below_alloc | apply pw_below_drewN | apply below_drew1) | exact HB.out)) hb); clear HB; have HB := n0_; clear n0_; (try clear hb); (try clear hb2); (try clear hk); (try clear hi)) | ((with_reducible refine gate_callee (f := 64) rfl ?_); refine goesL_ (some 12) rfl rfl Try.func64 (by kernel_rfl) rfl #[.int .i64 a1] rfl (by (try simp only [List.map_toArray, List.map_cons, List.map_nil]); first | done | rfl | (simp only [List.length_drop, List.length_take]; rfl)) ?_; (with_reducible refine (points_axes.calls a1 t118 _ A5.out).mono ?_); rintro e w' ⟨rfl, ⟨nd, rfl⟩⟩; refine ⟨_, rfl, ?_⟩))
    go_ret
    exact ⟨by first | rfl | (simp [errW_none, errW_some] <;> rfl) | (simp [*, errW_none, errW_some] <;> rfl), by repeat (first | (with_reducible first | exact HB.out | apply below_alloc | apply pw_below_drewN | apply below_drew1) | exact HB.out)⟩
  · rw [if_neg c4] at H
    have c4b0 : (t117 == 0) = false := beq_eq_false_iff_ne.mpr c4
    have c4b1 : (t117 != 0) = true := bne_iff_ne.mpr c4
    obtain rfl := Option.some.inj H
    go_enter Try.func47, Try.ntmps47
    go_wp2_with (first | ((with_reducible refine gate_callee (f := 40) rfl ?_); refine goesL_ (some 7) rfl rfl Try.func40 (by kernel_rfl) rfl #[.slice A0 l0.length c0] rfl (by (try simp only [List.map_toArray, List.map_cons, List.map_nil]); first | done | rfl | (simp only [List.length_drop, List.length_take]; rfl)) ?_; (with_reducible refine (vector_CheckSpots.calls _ _ l0 t117 _ ?side1 ?side2 A3.out).mono ?_); (case side1 => repeat (first | exact HR0.out | (with_reducible refine Kd.C_alloc ?_ _) | (with_reducible refine Kd.C_drewN ?_ _) | (with_reducible refine Kd.C_drew ?_))); (case side2 => exact HC0.out); rintro e w7 ⟨rfl, hb⟩; refine ⟨_, rfl, ?_⟩; have n0_ := Aside0.mk (below_step (by repeat (first | (with_reducible first | exact HB.out | apply below_alloc | apply pw_below_drewN | apply below_drew1) | exact HB.out)) hb); clear HB; have HB := n0_; clear n0_; (try clear hb); (try clear hb2); (try clear hk); (try clear hi)))
    go_ret
    exact ⟨by first | rfl | (simp [errW_none, errW_some] <;> rfl) | (simp [*, errW_none, errW_some] <;> rfl), by repeat (first | (with_reducible first | exact HB.out | apply below_alloc | apply pw_below_drewN | apply below_drew1) | exact HB.out)⟩

/-! ### points_of: function 56, proved by hand -/
/-- The world behind, where the blocks that are ok stand as they stood. -/
def OnlyBut (w w' : World) (ok : Nat → Prop) : Prop := w'.os = w.os ∧ w'.tape = w.tape ∧ w'.output = w.output ∧ w.heap.size ≤ w'.heap.size ∧ ∀ k, k < w.heap.size → ok k → w'.heap[k]? = w.heap[k]?
theorem only_refl (w : World) (ok : Nat → Prop) : OnlyBut w w ok := ⟨rfl, rfl, rfl, Nat.le_refl _, fun _ _ _ => rfl⟩
theorem only_of_below {w w' : World} {ok : Nat → Prop} {B : Nat} (h : Below B w w') (hB : w.heap.size ≤ B) : OnlyBut w w' ok := ⟨h.os, h.tape, h.output, h.size, fun k hk _ => h.block k (Nat.lt_of_lt_of_le hk hB)⟩
theorem only_set {w W : World} {ok : Nat → Prop} {g i : Nat} (h : OnlyBut w W ok) (hn : ∀ k, k < w.heap.size → ok k → k ≠ g) (u : Value) : OnlyBut w (W.setCell ⟨g, i, none⟩ u) ok :=
  ⟨h.1, h.2.1, h.2.2.1, by simpa [World.setCell] using h.2.2.2.1, fun k hk ho => (Below.heap_setCell W ⟨g, i, none⟩ u k (hn k hk ho)).trans (h.2.2.2.2 k hk ho)⟩
theorem only_drew {w W : World} {ok : Nat → Prop} (h : OnlyBut w W ok) : OnlyBut w W.drew ok := h
theorem only_trans {w w1 w2 : World} {ok ok2 : Nat → Prop} (h : OnlyBut w w1 ok) (h2 : OnlyBut w1 w2 ok2) (hk : ∀ k, k < w.heap.size → ok k → ok2 k) : OnlyBut w w2 ok :=
  ⟨h2.1.trans h.1, h2.2.1.trans h.2.1, h2.2.2.1.trans h.2.2.1, Nat.le_trans h.2.2.2.1 h2.2.2.2.1, fun k hl ho => (h2.2.2.2.2 k (Nat.lt_of_lt_of_le hl h.2.2.2.1) (hk k hl ho)).trans (h.2.2.2.2 k hl ho)⟩
theorem only_below {w w' : World} {ok : Nat → Prop} {B : Nat} (h : OnlyBut w w' ok) (hB : B ≤ w.heap.size) (hk : ∀ k, k < B → ok k) : Below B w w' := ⟨h.1, h.2.1, h.2.2.1, h.2.2.2.1, fun k hl => h.2.2.2.2 k (Nat.lt_of_lt_of_le hl hB) (hk k hl)⟩
theorem only_mono {w w' : World} {ok ok2 : Nat → Prop} (h : OnlyBut w w' ok) (hk : ∀ k, ok2 k → ok k) : OnlyBut w w' ok2 := ⟨h.1, h.2.1, h.2.2.1, h.2.2.2.1, fun k hl ho => h.2.2.2.2 k hl (hk k ho)⟩
def tripleCells (t : Int × Int × Int) : Array Value := #[.int .i64 t.1, .int .i64 t.2.1, .int .i64 t.2.2]
set_option maxHeartbeats 8000000 in
set_option maxRecDepth 100000 in
theorem of_calls (x y z : Int) (w : World) :
    Calls Try.prog 56 #[.agg #[.int .i64 x, .int .i64 y, .int .i64 z]] w fun e w' => e = .returned (.agg #[.int .i64 x, .int .i64 y, .int .i64 z]) ∧ Below w.heap.size w w' := by
  go_enter Try.func56, Try.ntmps56
  go_wp2
  refine bodyPost_ret (results_cell_row rfl _ _ (w.heap.size + 1) 86 #[.int .i64 x, .int .i64 y, .int .i64 z] (0, 0) _ rfl ?_ Try.underlying86 rfl (by kernel_rfl)) rfl ?_
  · have := heap_alloc_new (w.alloc (.cells #[.int .i64 x, .int .i64 y, .int .i64 z] 30)) (.cells #[.int .i64 x, .int .i64 y, .int .i64 z] 86)
    simpa using this
  · exact ⟨rfl, ((Below.refl _ _).alloc (Nat.le_refl _) _).alloc (by simp) _⟩
theorem index_t0 (x y z : Int) (W : World) : (Instr.index 86 (.agg #[.int .i64 x, .int .i64 y, .int .i64 z]) (.int .i64 0)).run Try.prog W = .ok (.int .i64 x) W := by
  simp [Instr.index, run_underlying (show Try.prog.underlying 86 = some (.array 3 3) from by kernel_rfl), asIntOf, go_sem]
theorem index_t1 (x y z : Int) (W : World) : (Instr.index 86 (.agg #[.int .i64 x, .int .i64 y, .int .i64 z]) (.int .i64 1)).run Try.prog W = .ok (.int .i64 y) W := by
  simp [Instr.index, run_underlying (show Try.prog.underlying 86 = some (.array 3 3) from by kernel_rfl), asIntOf, go_sem]
theorem index_t2 (x y z : Int) (W : World) : (Instr.index 86 (.agg #[.int .i64 x, .int .i64 y, .int .i64 z]) (.int .i64 2)).run Try.prog W = .ok (.int .i64 z) W := by
  simp [Instr.index, run_underlying (show Try.prog.underlying 86 = some (.array 3 3) from by kernel_rfl), asIntOf, go_sem]

/-! ### points_triple_spot: function 66, proved by hand -/
-- USES points_of
set_option maxHeartbeats 8000000 in
set_option maxRecDepth 100000 in
theorem spot_calls (x y z : Int) (g : Nat) (w : World) (hb : w.heap[g]? = some (.cells #[.int .i64 x, .int .i64 y, .int .i64 z] 86 (0, 0))) :
    Calls Try.prog 66 #[.pointer (some ⟨g, 0, none⟩)] w fun e w' => e = .returned (.agg #[.int .i64 x, .int .i64 y, .int .i64 z]) ∧ Below w.heap.size w w' := by
  have hg := blk_lt hb
  have hc0 : w.cell? ⟨g, 0, none⟩ = some (.int .i64 x) := (blk_cell hb 0).trans rfl
  have hc1 : w.cell? ⟨g, 1, none⟩ = some (.int .i64 y) := (blk_cell hb 1).trans rfl
  have hc2 : w.cell? ⟨g, 2, none⟩ = some (.int .i64 z) := (blk_cell hb 2).trans rfl
  have hne : g ≠ w.heap.size := Nat.ne_of_lt hg
  go_enter Try.func66, Try.ntmps66
  go_wp2
  go_region
  all_goals go_wp2
  all_goals
    refine bodyPost_ret (results_cell_row rfl _ _ w.heap.size 30 #[.int .i64 x, .int .i64 y, .int .i64 z] (0, 0) _ rfl ?_ Try.underlying30 rfl (by kernel_rfl)) rfl ?_
    · exact heap_alloc_new w (.cells #[.int .i64 x, .int .i64 y, .int .i64 z] 30)
    · exact ⟨rfl, below_drew1 ((Below.refl _ _).alloc (Nat.le_refl _) _)⟩

/-! ### points_each: function 48, proved by hand -/
-- USES points_of
-- USES points_triple_spot
-- USES points_along
/-- the spots that a change makes, with the state that the change keeps -/
def eachF {σ : Type} (st : σ → Int × Int × Int → σ × (Int × Int × Int)) : σ → List S30 → σ × List S30
  | s, [] => (s, [])
  | s, p :: l => let r := st s (p.f0, p.f1, p.f2); let q := eachF st r.1 l; (q.1, ⟨r.2.1, r.2.2.1, r.2.2.2⟩ :: q.2)
theorem eachF_snoc {σ : Type} (st : σ → Int × Int × Int → σ × (Int × Int × Int)) (p : S30) : ∀ (l : List S30) (s : σ), eachF st s (l ++ [p]) = ((st (eachF st s l).1 (p.f0, p.f1, p.f2)).1, (eachF st s l).2 ++ [⟨(st (eachF st s l).1 (p.f0, p.f1, p.f2)).2.1, (st (eachF st s l).1 (p.f0, p.f1, p.f2)).2.2.1, (st (eachF st s l).1 (p.f0, p.f1, p.f2)).2.2.2⟩])
  | [], s => rfl
  | q :: l, s => by simp only [List.cons_append, eachF, eachF_snoc st p l]
theorem eachF_length {σ : Type} (st : σ → Int × Int × Int → σ × (Int × Int × Int)) : ∀ (l : List S30) (s : σ), (eachF st s l).2.length = l.length
  | [], s => rfl
  | q :: l, s => by simp only [eachF, List.length_cons, eachF_length st l]
/-- A call of a function value that stands in a slot. -/
theorem goesV_ {P : Program} {ops : Array Oper} {Q : Exit → Act → World → Prop} {rest : List Oper} {oi : Oper} {a : Act} {w : World} (N : Option Tmp) (hd : oi.dst = N) (hg : oi.guard = none) {f : FuncId} {fn : Func} {vo : Operand} {xs_ : Array Operand} {ts : Array TypeId} (hf : P.funcs[f]? = some fn) (hname : (fn.name == "runtime.NumGoroutine") = false) (hb : fn.body.isSome = true) (args caps all_ : Array Value)
    (hop : oi.op = .call { callee := .value vo, args := xs_, argTypes := ts }) (hv : a.eval vo = .func (.func f) #[] caps) (hargs : xs_.map a.eval = args) (hall : args ++ caps = all_)
    (h : Calls P f all_ w fun e w' => ∃ v, e = .returned v ∧ wpList P ops Q rest (a.put N v) w') : wpList P ops Q (oi :: rest) a w := by
  subst hall
  refine wpList_plain hg fun K hK => ?_
  have he := enters_ hf hname hb (args ++ caps) w
  have hrun : (execOp a.eval oi).run P w = .ok (.enter f (args ++ caps)) w := by
    unfold execOp
    simp [hop, resolve, Deferred.ofValue, invoke, hv, hargs, he]
  unfold Oper.wp
  rw [hrun, Oper.upon_enter]
  refine h.mono fun e w'' hh => ?_
  obtain ⟨v, rfl, hk⟩ := hh
  subst hd
  exact hK _ _ hk
theorem gate_value {P : Program} {ops : Array Oper} {Q : Exit → Act → World → Prop} {rest : List Oper} {o : Oper} {a : Act} {W : World} {n : Tmp} {as_ : Array Operand} {ts : Array TypeId} (_ho : o.op = .call { callee := .value (.tmp n), args := as_, argTypes := ts }) (h : wpList P ops Q (o :: rest) a W) : wpList P ops Q (o :: rest) a W := h
theorem only_then {w W W' : World} {ok : Nat → Prop} (h : OnlyBut w W ok) (hb : Below w.heap.size W W') : OnlyBut w W' ok :=
  ⟨hb.os.trans h.1, hb.tape.trans h.2.1, hb.output.trans h.2.2.1, Nat.le_trans h.2.2.2.1 hb.size, fun k hk ho => (hb.block k hk).trans (h.2.2.2.2 k hk ho)⟩
theorem each_moveR {α : Type} {d : Kd α} {et : Nat} {acc : List α} {v : Value} {base g : Nat} {row : Option Nat} {wr W3 w4 w5 : World} (h : Kd.R d et wr base (fun _ => True) v acc) (hb : Below wr.heap.size wr W3) (hg : wr.heap.size ≤ g) (hon : OnlyBut W3 w4 (fun k => k ≠ g ∧ some k ≠ row)) (hrow : ∀ r, row = some r → r < base) (hb5 : Below w4.heap.size w4 w5) : Kd.R d et w5 base (fun _ => True) v acc := by
  have h1 := Kd.R_bound (Kd.R_elderB h g hg)
  have h3 : Kd.R d et W3 base (fun k => base ≤ k ∧ k ≠ g) v acc := Kd.R_mono (Kd.R_below h1 hb) (fun k hk => ⟨hk.2.1, hk.1.2⟩)
  have h4 : Kd.R d et w4 base (fun k => base ≤ k ∧ k ≠ g) v acc := Kd.R_step h3 (fun k hk hlt => hon.2.2.2.2 k hlt ⟨hk.2, fun e => by have := hrow _ e.symm; omega⟩)
  exact Kd.R_mono (Kd.R_below h4 hb5) (fun _ _ => trivial)
theorem each_b1 {wr w2 : World} (o1 : Obj) (h : Below (wr.alloc o1).heap.size (wr.alloc o1) w2) (o2 : Obj) : Below wr.heap.size wr (w2.alloc o2) :=
  (((Below.refl wr.heap.size wr).alloc (Nat.le_refl _) o1).trans (h.mono (by simp))).alloc (by have := h.size; simp at this; omega) o2
theorem each_b2 {wr w2 : World} {B : Nat} (hB : B ≤ wr.heap.size) (o1 : Obj) (h : Below (wr.alloc o1).heap.size (wr.alloc o1) w2) (o2 : Obj) : Below B wr (w2.alloc o2) := (each_b1 o1 h o2).mono hB
theorem each_sz {wr w2 : World} (o1 : Obj) (h : Below (wr.alloc o1).heap.size (wr.alloc o1) w2) : wr.heap.size ≤ w2.heap.size := by have := h.size; simp at this; omega
set_option maxHeartbeats 8000000 in
set_option maxRecDepth 100000 in
theorem each_calls {σ : Type} (st : σ → Int × Int × Int → σ × (Int × Int × Int)) (s0 : σ) (Ch : World → σ → Prop) (bB : Nat) (row : Option Nat) {f : FuncId} {fn : Func} (caps : Array Value) (hf : Try.prog.funcs[f]? = some fn) (hname : (fn.name == "runtime.NumGoroutine") = false) (hbody : fn.body.isSome = true)
    (A0 : Option Addr) (c0 : Nat) (l0 : List S30) (w : World) (hC : ∀ W, Below bB w W → Kd.C k30 W A0 l0.length l0) (hl : l0.length ≤ 1000) (hbB : bB ≤ w.heap.size) (hrow : ∀ r, row = some r → bB ≤ r ∧ r < w.heap.size)
    (hst : ∀ W W' s, Ch W s → Below w.heap.size W W' → Ch W' s) (h0 : Ch w s0)
    (hcall : ∀ W s t g, w.heap.size ≤ g → Ch W s → W.heap[g]? = some (.cells (tripleCells t) 86 (0, 0)) → Calls Try.prog f (#[.pointer (some ⟨g, 0, none⟩)] ++ caps) W fun e W' => e = .returned (.tuple #[]) ∧ W'.heap[g]? = some (.cells (tripleCells (st s t).2) 86 (0, 0)) ∧ Ch W' (st s t).1 ∧ OnlyBut W W' (fun k => k ≠ g ∧ some k ≠ row)) :
    Calls Try.prog 48 #[.slice A0 l0.length c0, .func (.func f) #[] caps] w fun e w' => ∃ v, e = .returned v ∧ Kd.R k30 30 w' w.heap.size (fun _ => True) v (eachF st s0 l0).2 ∧ Ch w' (eachF st s0 l0).1 ∧ OnlyBut w w' (fun k => some k ≠ row) := by
  have HC := Aside0.mk hC
  have HL := Aside0.mk hl
  have HROW := Aside0.mk hrow
  have HST := Aside0.mk hst
  have HCALL := Aside0.mk hcall
  have HBB := Aside0.mk hbB
  have H0 := Aside0.mk h0
  clear hC hl hrow hst hcall hbB h0
  go_enter Try.func48, Try.ntmps48
  go_wp2
  go_loopw [5, 11] (fun v5 v11 wr => ∃ i : Nat, i ≤ l0.length ∧ v11 = .int .i64 i ∧ Aside0 (Kd.R k30 30 wr w.heap.size (fun _ => True) v5 (eachF st s0 (l0.take i)).2) ∧ Aside0 (Ch wr (eachF st s0 (l0.take i)).1) ∧ Aside0 (OnlyBut w wr (fun k => some k ≠ row))) (fun _ v11 _ => l0.length - (intOf v11).toNat)
  case atStart => exact ⟨0, Nat.zero_le _, rfl, ⟨Kd.R_nil _ _ _ _ _⟩, H0, ⟨only_refl _ _⟩⟩
  case round =>
    obtain ⟨i, hi, rfl, HO, HCH, HB⟩ := hrel
    have hwr : w.heap.size ≤ wr.heap.size := HB.out.2.2.2.1
    by_cases hlt : i < l0.length
    · have HBb := Aside0.mk (only_below HB.out HBB.out (fun k hk e => by have := HROW.out _ e.symm; omega))
      obtain ⟨ad, rfl, q1, q2, q3⟩ := at_T30 (HC.out wr HBb.out) i (by omega) (by omega)
      simp only [Int.toNat_natCast] at q1 q2 q3
      obtain ⟨p, hp⟩ : ∃ p, p = rd_T30 l0 i := ⟨_, rfl⟩
      rw [← hp] at q1 q2 q3
      obtain ⟨s, hs⟩ : ∃ s, s = (eachF st s0 (l0.take i)).1 := ⟨_, rfl⟩
      obtain ⟨acc, hacc⟩ : ∃ a, a = (eachF st s0 (l0.take i)).2 := ⟨_, rfl⟩
      rw [← hs] at HCH
      rw [← hacc] at HO
      obtain ⟨s1, x, y, z, hstep⟩ : ∃ s1 x y z, st s (p.f0, p.f1, p.f2) = (s1, x, y, z) := ⟨_, _, _, _, rfl⟩
      have HLT := Aside0.mk (show i < l0.length ∧ acc.length = i from ⟨hlt, by rw [hacc, eachF_length, List.length_take]; omega⟩)
      have HEQ := Aside0.mk (show eachF st s0 (l0.take (i + 1)) = (s1, acc ++ [⟨x, y, z⟩]) from by
        have hg : rd_T30 l0 i = l0[i] := by unfold rd_T30; rw [Int.toNat_natCast, List.getD_eq_getElem?_getD, List.getElem?_eq_getElem hlt]; rfl
        rw [List.take_succ_eq_append_getElem hlt, eachF_snoc, ← hs, ← hacc, ← hg, ← hp, hstep])
      have HC1 := Aside0.mk (show ∀ W g, w.heap.size ≤ g → Ch W s → W.heap[g]? = some (.cells #[.int .i64 p.f0, .int .i64 p.f1, .int .i64 p.f2] 86 (0, 0)) → Calls Try.prog f (#[.pointer (some ⟨g, 0, none⟩)] ++ caps) W fun e W' => e = .returned (.tuple #[]) ∧ W'.heap[g]? = some (.cells #[.int .i64 x, .int .i64 y, .int .i64 z] 86 (0, 0)) ∧ Ch W' s1 ∧ OnlyBut W W' (fun k => k ≠ g ∧ some k ≠ row) from by
        intro W g hg hch hh
        have := HCALL.out W s (p.f0, p.f1, p.f2) g hg hch hh
        rw [hstep] at this
        exact this)
      have HW := Aside0.mk hwr
      clear hs hacc hstep hp hwr
      have hlt2 : decide ((i : Int) < (l0.length : Int)) = true := decide_eq_true (by have := HLT.out; omega)
      have hlt3 : decide (i < l0.length) = true := decide_eq_true HLT.out.1
      have hsm : (i : Int) ≤ 1000 := by have := HL.out; omega
      go_wp2_with (first
        | (go_at_call 56; refine (of_calls p.f0 p.f1 p.f2 _).mono ?_; rintro e w2 ⟨rfl, hb2⟩)
        | ((with_reducible refine gate_value (n := 17) rfl ?_); refine goesV_ (some 18) rfl rfl hf hname hbody #[.pointer (some ⟨w2.heap.size, 0, none⟩)] caps _ rfl rfl (by (try simp only [List.map_toArray, List.map_cons, List.map_nil]); first | done | rfl) rfl ?_; refine (HC1.out _ w2.heap.size ?c1 ?c2 ?c3).mono ?_; (case c1 => have := hb2.size; have := HW.out; simp only [World.size_alloc] at *; omega); (case c2 => exact HST.out wr _ s HCH.out (each_b2 HW.out _ hb2 _)); (case c3 => exact heap_alloc_new _ _); rintro e w4 ⟨rfl, hh4, hch4, hon4⟩; refine ⟨_, rfl, ?_⟩)
        | (go_at_call 66; refine (spot_calls x y z w2.heap.size _ hh4).mono ?_; rintro e w5 ⟨rfl, hb5⟩; have HO5 := Aside0.mk (each_moveR HO.out (each_b1 _ hb2 _) (each_sz _ hb2) hon4 (fun r hr => (HROW.out r hr).2) hb5); have hs5 := hb5.size; have hs4 := hon4.2.2.2.1; have hs2 := hb2.size)
        | (at_builtin; refine Kd.R_append k30 (w0 := w5) w.heap.size rfl (.tmp 19) (.tmp 21) 22 30 (.agg #[(.int .i64 0), (.int .i64 0), (.int .i64 0)]) 24 rfl Try.underlying22 info30 rfl (by decide) (by omega) u5 acc (⟨x, y, z⟩ : S30) [.int .i64 x, .int .i64 y, .int .i64 z] (fun _ => True) (fun _ => False) rfl rfl ?aP (fun _ hk => hk.elim) ?aF ?aO ?aB ?aS ?aL ?_; (case aP => exact k30_mkM _ _ _ (⟨x, y, z⟩ : S30)); (case aB => exact Below.refl _ _); (case aF => exact (fun _ _ => trivial)); (case aO => exact HO5.out); (case aS => (have := HW.out; simp only [World.size_alloc] at *; omega)); (case aL => (have := HLT.out; have := HL.out; omega)); intro v1 w6 ho6 hb6 _ _))
      go_roundw
      case rel =>
        refine ⟨i + 1, by omega, by go_num, ⟨?_⟩, ⟨?_⟩, ⟨?_⟩⟩
        · rw [HEQ.out]; exact ho6
        · rw [HEQ.out]
          exact HST.out w4 w6 s1 hch4 (Below.trans (hb5.mono (by have := HW.out; simp only [World.size_alloc] at *; omega)) hb6)
        · refine only_then (only_trans (only_then HB.out (each_b2 HW.out _ hb2 _)) hon4 (fun k hk ho => ⟨by have := HW.out; have := hb2.size; simp only [World.size_alloc] at *; omega, ho⟩)) (Below.trans (hb5.mono (by have := HW.out; simp only [World.size_alloc] at *; omega)) hb6)
      case measure => simp [intOf]; omega
    · go_wp2
      go_ret
      have e : l0.take i = l0 := List.take_of_length_le (by omega)
      rw [e] at HO HCH
      exact ⟨_, rfl, HO.out, HCH.out, HB.out⟩
/-- the spots, each changed -/
def mapT (g : Int × Int × Int → Int × Int × Int) (l : List S30) : List S30 := l.map fun p => ⟨(g (p.f0, p.f1, p.f2)).1, (g (p.f0, p.f1, p.f2)).2.1, (g (p.f0, p.f1, p.f2)).2.2⟩
theorem eachF_map (g : Int × Int × Int → Int × Int × Int) : ∀ (l : List S30) (u : Unit), eachF (fun (_ : Unit) t => ((), g t)) u l = ((), mapT g l)
  | [], _ => rfl
  | p :: l, u => by simp only [eachF, eachF_map g l, mapT, List.map_cons]
theorem only_all {w w' : World} (h : OnlyBut w w' (fun k => some k ≠ (none : Option Nat))) : Below w.heap.size w w' := only_below h (Nat.le_refl _) (fun _ _ => by simp)
theorem small_of_along {l : List S30} {a : Int} (h : points_along.f l a = some 0) : l.length ≤ 64 := by
  unfold points_along.f vector_CheckSpots.f at h
  rw [Option.bind_some] at h
  by_cases hl : l.length > 64
  · rw [if_pos hl, if_neg (by decide)] at h
    exact absurd (Option.some.inj h) (by decide)
  · omega
theorem axis_of_along {l : List S30} {a : Int} (h : points_along.f l a = some 0) : 0 ≤ a ∧ a ≤ 2 := by
  unfold points_along.f vector_CheckSpots.f points_axes.f at h
  rw [Option.bind_some] at h
  by_cases hc : (if l.length > 64 then (5 : Int) else allSpot l) = 0
  · rw [if_pos hc] at h
    by_cases h1 : a < 0
    · rw [if_pos h1] at h; exact absurd (Option.some.inj h) (by decide)
    · rw [if_neg h1] at h
      by_cases h2 : a ≥ 3
      · rw [if_pos h2] at h; exact absurd (Option.some.inj h) (by decide)
      · omega
  · rw [if_neg hc] at h
    exact absurd (Option.some.inj h) hc

/-! ### points_Thin: function 14, proved by hand -/
-- USES points_each
-- USES vector_SquareSpace
def idxOf (pr : S30 → Bool) (l : List S30) : Int := if l.any pr then (l.findIdx pr : Int) else -1
theorem idx_hit (pr : S30 → Bool) (l : List S30) (i : Nat) (hi : i < l.length) (hn : ∀ j : Nat, j < i → pr (rd_T30 l j) = false) (h : pr (rd_T30 l i) = true) : idxOf pr l = (i : Int) := by
  have hg : ∀ j (hj : j < l.length), rd_T30 l (j : Nat) = l[j] := fun j hj => by unfold rd_T30; rw [Int.toNat_natCast, List.getD_eq_getElem?_getD, List.getElem?_eq_getElem hj]; rfl
  unfold idxOf
  rw [if_pos (List.any_eq_true.mpr ⟨l[i], List.getElem_mem _, by rw [← hg i hi]; exact h⟩)]
  congr 1
  rw [List.findIdx_eq hi]
  exact ⟨by rw [← hg i hi]; exact h, fun j hj => by rw [← hg j (by omega)]; exact hn j hj⟩
theorem idx_none (pr : S30 → Bool) (l : List S30) (hn : ∀ j : Nat, j < l.length → pr (rd_T30 l j) = false) : idxOf pr l = -1 := by
  have hg : ∀ j (hj : j < l.length), rd_T30 l (j : Nat) = l[j] := fun j hj => by unfold rd_T30; rw [Int.toNat_natCast, List.getD_eq_getElem?_getD, List.getElem?_eq_getElem hj]; rfl
  unfold idxOf
  rw [if_neg]
  intro h
  obtain ⟨x, hx, hp⟩ := List.any_eq_true.mp h
  obtain ⟨j, hj, rfl⟩ := List.getElem_of_mem hx
  rw [← hg j hj, hn j hj] at hp
  cases hp
theorem idx_any (pr : S30 → Bool) (l : List S30) : decide (0 ≤ idxOf pr l) = l.any pr := by
  unfold idxOf
  cases h : l.any pr
  · rfl
  · simp
set_option maxHeartbeats 8000000 in
set_option maxRecDepth 100000 in
theorem IndexFunc_calls (pr : S30 → Bool) {f : FuncId} {fn : Func} (caps : Array Value) (hf : Try.prog.funcs[f]? = some fn) (hname : (fn.name == "runtime.NumGoroutine") = false) (hbody : fn.body.isSome = true)
    (A0 : Option Addr) (c0 : Nat) (l0 : List S30) (w : World) (hC : Kd.C k30 w A0 l0.length l0) (hl : l0.length ≤ 1000)
    (hcall : ∀ W p, Below w.heap.size w W → Calls Try.prog f (#[.agg #[.int .i64 p.f0, .int .i64 p.f1, .int .i64 p.f2]] ++ caps) W fun e W' => e = .returned (.bool (pr p)) ∧ Below W.heap.size W W') :
    Calls Try.prog 76 #[.slice A0 l0.length c0, .func (.func f) #[] caps] w fun e w' => e = .returned (.int .i64 (idxOf pr l0)) ∧ Below w.heap.size w w' := by
  have HC := Aside0.mk hC
  have HL := Aside0.mk hl
  have HCALL := Aside0.mk hcall
  clear hC hl hcall
  go_enter Try.func76, Try.ntmps76
  go_wp2
  go_loopw [8] (fun v8 wr => ∃ i : Nat, i ≤ l0.length ∧ v8 = .int .i64 i ∧ Aside0 (∀ j : Nat, j < i → pr (rd_T30 l0 j) = false) ∧ Aside0 (Below w.heap.size w wr)) (fun v8 _ => l0.length - (intOf v8).toNat)
  case atStart => exact ⟨0, Nat.zero_le _, rfl, ⟨fun j hj => absurd hj (by omega)⟩, ⟨Below.refl _ _⟩⟩
  case round =>
    obtain ⟨i, hi, rfl, HA, HB⟩ := hrel
    by_cases hlt : i < l0.length
    · obtain ⟨ad, rfl, q1, q2, q3⟩ := at_T30 (Kd.C_below HC.out HB.out) i (by omega) (by omega)
      simp only [Int.toNat_natCast] at q1 q2 q3
      have hsm : (i : Int) ≤ 1000 := by have := HL.out; omega
      obtain ⟨p, hp⟩ : ∃ p, p = rd_T30 l0 i := ⟨_, rfl⟩
      rw [← hp] at q1 q2 q3
      have HP := Aside0.mk hp
      clear hp
      obtain ⟨b, hb⟩ : ∃ b, pr p = b := ⟨_, rfl⟩
      have HPB := Aside0.mk hb
      clear hb
      cases b
      · go_wp2_with ((with_reducible refine gate_value (n := 11) rfl ?_); refine goesV_ (some 16) rfl rfl hf hname hbody #[.agg #[.int .i64 p.f0, .int .i64 p.f1, .int .i64 p.f2]] caps _ rfl rfl (by (try simp only [List.map_toArray, List.map_cons, List.map_nil]); first | done | rfl) rfl ?_; refine (HCALL.out _ p HB.out).mono ?_; rw [HPB.out]; rintro e w2 ⟨rfl, hb2⟩; refine ⟨_, rfl, ?_⟩)
        go_roundw
        case rel =>
          refine ⟨i + 1, by omega, by go_num, ⟨fun j hj => ?_⟩, ⟨HB.out.trans (hb2.mono HB.out.size)⟩⟩
          by_cases e : j = i
          · subst e; rw [← HP.out]; exact HPB.out
          · exact HA.out j (by omega)
        case measure => simp [intOf]; omega
      · go_wp2_with ((with_reducible refine gate_value (n := 11) rfl ?_); refine goesV_ (some 16) rfl rfl hf hname hbody #[.agg #[.int .i64 p.f0, .int .i64 p.f1, .int .i64 p.f2]] caps _ rfl rfl (by (try simp only [List.map_toArray, List.map_cons, List.map_nil]); first | done | rfl) rfl ?_; refine (HCALL.out _ p HB.out).mono ?_; rw [HPB.out]; rintro e w2 ⟨rfl, hb2⟩; refine ⟨_, rfl, ?_⟩)
        go_ret
        refine ⟨?_, HB.out.trans (hb2.mono HB.out.size)⟩
        rw [idx_hit pr l0 i hlt HA.out (by rw [← HP.out]; exact HPB.out)]
        rfl
    · go_wp2
      go_ret
      refine ⟨?_, HB.out⟩
      rw [idx_none pr l0 (fun j hj => HA.out j (by omega))]
      rfl
set_option maxHeartbeats 8000000 in
set_option maxRecDepth 100000 in
theorem ContainsFunc_calls (pr : S30 → Bool) {f : FuncId} {fn : Func} (caps : Array Value) (hf : Try.prog.funcs[f]? = some fn) (hname : (fn.name == "runtime.NumGoroutine") = false) (hbody : fn.body.isSome = true)
    (A0 : Option Addr) (c0 : Nat) (l0 : List S30) (w : World) (hC : Kd.C k30 w A0 l0.length l0) (hl : l0.length ≤ 1000)
    (hcall : ∀ W p, Below w.heap.size w W → Calls Try.prog f (#[.agg #[.int .i64 p.f0, .int .i64 p.f1, .int .i64 p.f2]] ++ caps) W fun e W' => e = .returned (.bool (pr p)) ∧ Below W.heap.size W W') :
    Calls Try.prog 41 #[.slice A0 l0.length c0, .func (.func f) #[] caps] w fun e w' => e = .returned (.bool (l0.any pr)) ∧ Below w.heap.size w w' := by
  have HC := Aside0.mk hC
  have HL := Aside0.mk hl
  have HCALL := Aside0.mk hcall
  have HI := Aside0.mk (idx_any pr l0)
  clear hC hl hcall
  go_enter Try.func41, Try.ntmps41
  go_wp2_with (go_at_call 76; refine (IndexFunc_calls pr caps hf hname hbody A0 c0 l0 _ HC.out HL.out HCALL.out).mono ?_; rintro e w2 ⟨rfl, hb2⟩)
  go_ret
  refine ⟨?_, hb2⟩
  rw [← HI.out]
  rfl
/-- the squared distance of spots, 0 where there is none -/
def sqS (p q : S30) : Int := ((vector_SquareSpace.f p.f0 p.f1 p.f2 q.f0 q.f1 q.f2).getD (0, 0)).1
theorem sqS_some (p q : S30) : ∃ e, vector_SquareSpace.f p.f0 p.f1 p.f2 q.f0 q.f1 q.f2 = some (sqS p q, e) := by
  have h : ∃ r, vector_SquareSpace.f p.f0 p.f1 p.f2 q.f0 q.f1 q.f2 = some r := by
    unfold vector_SquareSpace.f vector_reach.f vector_beam_dot.f
    split
    · exact ⟨_, rfl⟩
    · exact ⟨_, rfl⟩
  obtain ⟨⟨n, e⟩, h⟩ := h
  refine ⟨e, ?_⟩
  unfold sqS
  rw [h]
  rfl
def nearG (gap : Int) (p q : S30) : Bool := decide (sqS p q < wrap64 (gap * gap))
def thinF (gap : Int) (l : List S30) : List S30 := l.foldl (fun out p => if out.any (nearG gap p) then out else out ++ [p]) []
theorem thinF_snoc (gap : Int) (l : List S30) (p : S30) : thinF gap (l ++ [p]) = if (thinF gap l).any (nearG gap p) then thinF gap l else thinF gap l ++ [p] := by
  unfold thinF
  rw [List.foldl_append]
  rfl
theorem thinF_length (gap : Int) (l : List S30) : ∀ n, n ≤ l.length → (thinF gap (l.take n)).length ≤ n := by
  intro n
  induction n with
  | zero => intro _; simp [thinF]
  | succ n ih =>
    intro h
    rw [List.take_succ_eq_append_getElem (by omega), thinF_snoc]
    have := ih (by omega)
    split
    · omega
    · simp; omega
set_option maxHeartbeats 8000000 in
set_option maxRecDepth 100000 in
theorem Thin1_calls (p q : S30) (gap : Int) (gp gg : Nat) (w : World) (hp : w.heap[gp]? = some (.cells #[.int .i64 p.f0, .int .i64 p.f1, .int .i64 p.f2] 30 (0, 0))) (hg : w.heap[gg]? = some (.cells #[.int .i64 gap] 3 (0, 0))) :
    Calls Try.prog 42 #[.agg #[.int .i64 q.f0, .int .i64 q.f1, .int .i64 q.f2], .pointer (some ⟨gp, 0, none⟩), .pointer (some ⟨gg, 0, none⟩)] w fun e w' => e = .returned (.bool (nearG gap p q)) ∧ Below w.heap.size w w' := by
  obtain ⟨e, he⟩ := sqS_some p q
  have HE := Aside0.mk he
  have HG := Aside0.mk hg
  have hc0 : (w.alloc (.cells #[.int .i64 q.f0, .int .i64 q.f1, .int .i64 q.f2] 30)).cell? ⟨gp, 0, none⟩ = some (.int .i64 p.f0) := (blk_cell (blk_alloc hp _) 0).trans rfl
  have hc1 : (w.alloc (.cells #[.int .i64 q.f0, .int .i64 q.f1, .int .i64 q.f2] 30)).cell? ⟨gp, 1, none⟩ = some (.int .i64 p.f1) := (blk_cell (blk_alloc hp _) 1).trans rfl
  have hc2 : (w.alloc (.cells #[.int .i64 q.f0, .int .i64 q.f1, .int .i64 q.f2] 30)).cell? ⟨gp, 2, none⟩ = some (.int .i64 p.f2) := (blk_cell (blk_alloc hp _) 2).trans rfl
  have hlt := blk_lt hg
  have HB0 := Aside0.mk ((Below.refl w.heap.size w).alloc (Nat.le_refl _) (.cells #[.int .i64 q.f0, .int .i64 q.f1, .int .i64 q.f2] 30))
  clear he hg
  go_enter Try.func42, Try.ntmps42
  go_wp2_with (go_at_call 15; refine (vector_SquareSpace.calls p.f0 p.f1 p.f2 q.f0 q.f1 q.f2 (sqS p q) e _ HE.out).mono ?_; rintro e w1 ⟨rfl, hb1⟩; have hgc : w1.cell? ⟨gg, 0, none⟩ = some (.int .i64 gap) := (blk_cell ((hb1.block gg (by rw [World.size_alloc]; omega)).trans (blk_alloc HG.out _)) 0).trans rfl)
  go_ret
  exact ⟨rfl, HB0.out.trans (hb1.mono HB0.out.size)⟩
def points_Thin.f (l : List S30) (gap : Int) : Option (List S30 × Int) := (vector_CheckSpots.f l).bind fun e => if e = 0 then (if gap < 0 then some ([], 2) else if 100000 < gap then some ([], 2) else some (thinF gap l, 0)) else some ([], e)
theorem small_of_check {l : List S30} (h : vector_CheckSpots.f l = some 0) : l.length ≤ 64 := by
  unfold vector_CheckSpots.f at h
  by_cases hl : l.length > 64
  · rw [if_pos hl] at h
    exact absurd (Option.some.inj h) (by decide)
  · omega
set_option maxHeartbeats 8000000 in
set_option maxRecDepth 100000 in
theorem Thin_loop (A0 : Option Addr) (c0 : Nat) (l0 : List S30) (a1 : Int) (w : World) (hr0 : Kd.C k30 w A0 l0.length l0) (hc0 : l0.length ≤ c0) (he : vector_CheckSpots.f l0 = some 0) (h0 : 0 ≤ a1) (h1 : a1 ≤ 100000) :
    Calls Try.prog 14 #[.slice A0 l0.length c0, .int .i64 a1] w fun e w' => ∃ v0_ : Value, e = .returned (.tuple #[v0_, .int .i64 0]) ∧ Kd.R k30 30 w' w.heap.size (fun _ => True) v0_ (thinF a1 l0) ∧ Below w.heap.size w w' := by
  have HR := Aside0.mk hr0
  have HE := Aside0.mk he
  have HSM := Aside0.mk (small_of_check he)
  have HB0 := Aside0.mk ((Below.refl w.heap.size w).alloc (Nat.le_refl _) (.cells #[.int .i64 a1] 3))
  have d0 : decide (a1 < 0) = false := decide_eq_false (by omega)
  have d1 : decide (100000 < a1) = false := decide_eq_false (by omega)
  have hx0 : (w.alloc (.cells #[.int .i64 a1] 3)).heap[w.heap.size]? = some (.cells #[.int .i64 a1] 3 (0, 0)) := heap_alloc_new w _
  have HX := Aside0.mk hx0
  clear hr0 he h0 h1 hx0
  go_enter Try.func14, Try.ntmps14
  go_wp2_with (go_at_call 40; refine (vector_CheckSpots.calls A0 c0 l0 0 _ (Kd.C_below HR.out HB0.out) hc0 HE.out).mono ?_; rintro e w1 ⟨rfl, hb1⟩; have hxc : w1.cell? ⟨w.heap.size, 0, none⟩ = some (.int .i64 a1) := (blk_cell ((hb1.block _ (by rw [World.size_alloc]; omega)).trans HX.out) 0).trans rfl)
  have HB1 := Aside0.mk (show Below (w.heap.size + 1) (w.alloc (.cells #[.int .i64 a1] 3)) w1 from by have := hb1; rw [World.size_alloc] at this; exact this)
  clear hb1 hxc
  go_loopw [7, 24] (fun v7 v24 wr => ∃ i : Nat, i ≤ l0.length ∧ v24 = .int .i64 i ∧ Aside0 (Kd.R k30 30 wr (w.heap.size + 1) (fun _ => True) v7 (thinF a1 (l0.take i))) ∧ Aside0 (Below (w.heap.size + 1) (w.alloc (.cells #[.int .i64 a1] 3)) wr)) (fun _ v24 _ => l0.length - (intOf v24).toNat)
  case atStart => exact ⟨0, Nat.zero_le _, rfl, ⟨Kd.R_nil _ _ _ _ _⟩, HB1⟩
  case round =>
    clear HB1
    obtain ⟨i, hi, rfl, HO, HB⟩ := hrel
    have HBw := Aside0.mk (HB0.out.trans (HB.out.mono (Nat.le_succ _)))
    have hsz : w.heap.size + 1 ≤ wr.heap.size := by have := HB.out.size; rw [World.size_alloc] at this; exact this
    by_cases hlt : i < l0.length
    · obtain ⟨ad, rfl, q1, q2, q3⟩ := at_T30 (Kd.C_below HR.out HBw.out) i (by omega) (by omega)
      simp only [Int.toNat_natCast] at q1 q2 q3
      have hsm : (i : Int) ≤ 64 := by have := HSM.out; omega
      obtain ⟨p, hp⟩ : ∃ p, p = rd_T30 l0 i := ⟨_, rfl⟩
      rw [← hp] at q1 q2 q3
      obtain ⟨acc, hacc⟩ : ∃ a, a = thinF a1 (l0.take i) := ⟨_, rfl⟩
      have HLA := Aside0.mk (show acc.length ≤ 64 from by rw [hacc]; have := thinF_length a1 l0 i hi; omega)
      rw [← hacc] at HO
      have HEQ := Aside0.mk (show thinF a1 (l0.take (i + 1)) = if acc.any (nearG a1 p) then acc else acc ++ [p] from by
        have hg : rd_T30 l0 i = l0[i] := by unfold rd_T30; rw [Int.toNat_natCast, List.getD_eq_getElem?_getD, List.getElem?_eq_getElem hlt]; rfl
        rw [List.take_succ_eq_append_getElem hlt, thinF_snoc, ← hacc, ← hg, ← hp])
      obtain ⟨A7, c7, hv7, hc7, hC7⟩ := Kd.R_reads HO.out
      have HO2 := Aside0.mk (Kd.R_below HO.out ((Below.refl wr.heap.size wr).alloc (Nat.le_refl _) (.cells #[.int .i64 p.f0, .int .i64 p.f1, .int .i64 p.f2] 30)))
      have hb9 : Below wr.heap.size wr (wr.alloc (.cells #[.int .i64 p.f0, .int .i64 p.f1, .int .i64 p.f2] 30)) := (Below.refl _ _).alloc (Nat.le_refl _) _
      have HC7 := Aside0.mk (Kd.C_below hC7 hb9)
      have HGG := Aside0.mk (show (wr.alloc (.cells #[.int .i64 p.f0, .int .i64 p.f1, .int .i64 p.f2] 30)).heap[w.heap.size]? = some (.cells #[.int .i64 a1] 3 (0, 0)) from blk_alloc ((HB.out.block _ (Nat.lt_succ_self _)).trans HX.out) _)
      have HB9 := Aside0.mk hb9
      have HGP := Aside0.mk (heap_alloc_new wr (.cells #[.int .i64 p.f0, .int .i64 p.f1, .int .i64 p.f2] 30))
      have HCA := Aside0.mk (ContainsFunc_calls (nearG a1 p) #[.pointer (some ⟨wr.heap.size, 0, none⟩), .pointer (some ⟨w.heap.size, 0, none⟩)] Try.func42 (by kernel_rfl) rfl A7 c7 acc (wr.alloc (.cells #[.int .i64 p.f0, .int .i64 p.f1, .int .i64 p.f2] 30)) HC7.out (by have := HLA.out; omega) (fun W q hb => Thin1_calls p q a1 wr.heap.size w.heap.size W ((hb.block _ (by rw [World.size_alloc]; omega)).trans HGP.out) ((hb.block _ (by rw [World.size_alloc]; omega)).trans HGG.out)))
      subst hv7
      clear hC7 hb9 hacc hp hc7
      cases hany : acc.any (nearG a1 p)
      · rw [hany] at HCA HEQ
        clear hany
        go_wp2_with (first
          | (go_at_call 41; refine HCA.out.mono ?_; rintro e w2 ⟨rfl, hb2⟩; have hp2 := (hb2.block wr.heap.size (by rw [World.size_alloc]; omega)).trans HGP.out; have hy0 : w2.cell? ⟨wr.heap.size, 0, none⟩ = some (.int .i64 p.f0) := (blk_cell hp2 0).trans rfl; have hy1 : w2.cell? ⟨wr.heap.size, 1, none⟩ = some (.int .i64 p.f1) := (blk_cell hp2 1).trans rfl; have hy2 : w2.cell? ⟨wr.heap.size, 2, none⟩ = some (.int .i64 p.f2) := (blk_cell hp2 2).trans rfl; have HO3 := Aside0.mk (Kd.R_below HO2.out hb2); have HB3 := Aside0.mk ((HB.out.alloc hsz (.cells #[.int .i64 p.f0, .int .i64 p.f1, .int .i64 p.f2] 30)).trans (hb2.mono (by rw [World.size_alloc]; omega))))
          | (at_builtin; refine Kd.R_append k30 (w0 := w.alloc (.cells #[.int .i64 a1] 3)) (w.heap.size + 1) rfl (.tmp 33) (.tmp 35) 22 30 (.agg #[(.int .i64 0), (.int .i64 0), (.int .i64 0)]) 24 rfl Try.underlying22 info30 rfl (by decide) (by omega) (.slice A7 acc.length c7) acc p [.int .i64 p.f0, .int .i64 p.f1, .int .i64 p.f2] (fun _ => True) (fun _ => False) rfl rfl ?aP (fun _ hk => hk.elim) ?aF ?aO ?aB ?aS ?aL ?_; (case aP => exact k30_mkM _ _ _ p); (case aB => exact HB3.out); (case aF => exact (fun _ _ => trivial)); (case aO => exact HO3.out); (case aS => (have := HB3.out.size; rw [World.size_alloc] at this; exact this)); (case aL => (have := HLA.out; omega)); intro v1 w6 ho6 hb6 _ _))
        go_roundw
        case rel => exact ⟨i + 1, by omega, by go_num, ⟨by rw [HEQ.out]; exact ho6⟩, ⟨hb6⟩⟩
        case measure => simp [intOf]; omega
      · rw [hany] at HCA HEQ
        clear hany
        go_wp2_with (go_at_call 41; refine HCA.out.mono ?_; rintro e w2 ⟨rfl, hb2⟩; have HO3 := Aside0.mk (Kd.R_below HO2.out hb2); have HB3 := Aside0.mk ((HB.out.alloc hsz (.cells #[.int .i64 p.f0, .int .i64 p.f1, .int .i64 p.f2] 30)).trans (hb2.mono (by rw [World.size_alloc]; omega))))
        go_roundw
        case rel => exact ⟨i + 1, by omega, by go_num, ⟨by rw [HEQ.out]; exact HO3.out⟩, HB3⟩
        case measure => simp [intOf]; omega
    · go_wp2
      go_ret2
      have e : l0.take i = l0 := List.take_of_length_le (by omega)
      rw [e] at HO
      exact ⟨_, rfl, Kd.R_lower HO.out (Nat.le_succ _), HBw.out⟩
set_option maxHeartbeats 8000000 in
set_option maxRecDepth 100000 in
theorem Thin_range (A0 : Option Addr) (c0 : Nat) (l0 : List S30) (a1 : Int) (w : World) (hr0 : Kd.C k30 w A0 l0.length l0) (hc0 : l0.length ≤ c0) (he : vector_CheckSpots.f l0 = some 0) (h0 : a1 < 0 ∨ 100000 < a1) :
    Calls Try.prog 14 #[.slice A0 l0.length c0, .int .i64 a1] w fun e w' => e = .returned (.tuple #[.slice none 0 0, .int .i64 2]) ∧ Below w.heap.size w w' := by
  have HR := Aside0.mk hr0
  have HE := Aside0.mk he
  have HB0 := Aside0.mk ((Below.refl w.heap.size w).alloc (Nat.le_refl _) (.cells #[.int .i64 a1] 3))
  have HX := Aside0.mk (heap_alloc_new w (.cells #[.int .i64 a1] 3))
  clear hr0 he
  by_cases h1 : a1 < 0
  · have d0 : decide (a1 < 0) = true := decide_eq_true h1
    clear h0 h1
    go_enter Try.func14, Try.ntmps14
    go_wp2_with (go_at_call 40; refine (vector_CheckSpots.calls A0 c0 l0 0 _ (Kd.C_below HR.out HB0.out) hc0 HE.out).mono ?_; rintro e w1 ⟨rfl, hb1⟩; have hxc : w1.cell? ⟨w.heap.size, 0, none⟩ = some (.int .i64 a1) := (blk_cell ((hb1.block _ (by rw [World.size_alloc]; omega)).trans HX.out) 0).trans rfl)
    go_ret2
    exact ⟨rfl, HB0.out.trans (hb1.mono HB0.out.size)⟩
  · have d0 : decide (a1 < 0) = false := decide_eq_false h1
    have d1 : decide (100000 < a1) = true := decide_eq_true (by omega)
    clear h0 h1
    go_enter Try.func14, Try.ntmps14
    go_wp2_with (go_at_call 40; refine (vector_CheckSpots.calls A0 c0 l0 0 _ (Kd.C_below HR.out HB0.out) hc0 HE.out).mono ?_; rintro e w1 ⟨rfl, hb1⟩; have hxc : w1.cell? ⟨w.heap.size, 0, none⟩ = some (.int .i64 a1) := (blk_cell ((hb1.block _ (by rw [World.size_alloc]; omega)).trans HX.out) 0).trans rfl)
    go_ret2
    exact ⟨rfl, HB0.out.trans (hb1.mono HB0.out.size)⟩
set_option maxHeartbeats 8000000 in
set_option maxRecDepth 100000 in
theorem Thin_bad (A0 : Option Addr) (c0 : Nat) (l0 : List S30) (a1 e : Int) (w : World) (hr0 : Kd.C k30 w A0 l0.length l0) (hc0 : l0.length ≤ c0) (he : vector_CheckSpots.f l0 = some e) (h0 : e ≠ 0) :
    Calls Try.prog 14 #[.slice A0 l0.length c0, .int .i64 a1] w fun e_ w' => e_ = .returned (.tuple #[.slice none 0 0, .int .i64 e]) ∧ Below w.heap.size w w' := by
  have HR := Aside0.mk hr0
  have HE := Aside0.mk he
  have HB0 := Aside0.mk ((Below.refl w.heap.size w).alloc (Nat.le_refl _) (.cells #[.int .i64 a1] 3))
  have hne : (e != 0) = true := bne_iff_ne.mpr h0
  clear hr0 he h0
  go_enter Try.func14, Try.ntmps14
  go_wp2_with (go_at_call 40; refine (vector_CheckSpots.calls A0 c0 l0 e _ (Kd.C_below HR.out HB0.out) hc0 HE.out).mono ?_; rintro e w1 ⟨rfl, hb1⟩)
  go_ret2
  exact ⟨rfl, HB0.out.trans (hb1.mono HB0.out.size)⟩
theorem points_Thin.calls (A0 : Option Addr) (c0 : Nat) (l0 : List S30) (a1 : Int) (r1 : List S30) (r2 : Int) (w : World) (hr0 : Kd.C k30 w A0 l0.length l0) (hc0 : l0.length ≤ c0) (h : points_Thin.f l0 a1 = some (r1, r2)) :
    Calls Try.prog 14 #[.slice A0 l0.length c0, .int .i64 a1] w fun e w' => ∃ v0_ : Value, e = .returned (.tuple #[v0_, .int .i64 r2]) ∧ Kd.R k30 30 w' w.heap.size (fun _ => True) v0_ r1 ∧ Below w.heap.size w w' := by
  unfold points_Thin.f at h
  obtain ⟨e, he, h⟩ := Option.bind_eq_some_iff.mp h
  by_cases h0 : e = 0
  · subst h0
    rw [if_pos rfl] at h
    by_cases h1 : a1 < 0
    · rw [if_pos h1] at h
      obtain ⟨rfl, rfl⟩ := Prod.mk.inj (Option.some.inj h)
      exact (Thin_range A0 c0 l0 a1 w hr0 hc0 he (.inl h1)).mono fun e w' hh => ⟨_, hh.1, Kd.R_nil _ _ _ _ _, hh.2⟩
    · rw [if_neg h1] at h
      by_cases h2 : 100000 < a1
      · rw [if_pos h2] at h
        obtain ⟨rfl, rfl⟩ := Prod.mk.inj (Option.some.inj h)
        exact (Thin_range A0 c0 l0 a1 w hr0 hc0 he (.inr h2)).mono fun e w' hh => ⟨_, hh.1, Kd.R_nil _ _ _ _ _, hh.2⟩
      · rw [if_neg h2] at h
        obtain ⟨rfl, rfl⟩ := Prod.mk.inj (Option.some.inj h)
        exact Thin_loop A0 c0 l0 a1 w hr0 hc0 he (by omega) (by omega)
  · rw [if_neg h0] at h
    obtain ⟨rfl, rfl⟩ := Prod.mk.inj (Option.some.inj h)
    exact (Thin_bad A0 c0 l0 a1 e w hr0 hc0 he h0).mono fun e w' hh => ⟨_, hh.1, Kd.R_nil _ _ _ _ _, hh.2⟩

/-! ### points_triple_turn: function 50, proved by hand -/
-- USES points_of
/-- a quarter turn around an axis -/
def turnV (axis : Int) (t : Int × Int × Int) : Int × Int × Int := if axis = 0 then (t.1, wrap64 (-t.2.2), t.2.1) else if axis = 1 then (t.2.2, t.2.1, wrap64 (-t.1)) else (wrap64 (-t.2.1), t.1, t.2.2)
set_option maxHeartbeats 8000000 in
set_option maxRecDepth 100000 in
theorem turn_calls (t : Int × Int × Int) (axis : Int) (g : Nat) (w : World) (hb : w.heap[g]? = some (.cells (tripleCells t) 86 (0, 0))) :
    Calls Try.prog 50 #[.pointer (some ⟨g, 0, none⟩), .int .i64 axis] w fun e w' => e = .returned (.tuple #[]) ∧ w'.heap[g]? = some (.cells (tripleCells (turnV axis t)) 86 (0, 0)) ∧ OnlyBut w w' (fun k => k ≠ g) := by
  obtain ⟨x, y, z⟩ := t
  have hg := blk_lt hb
  have hc0 : w.cell? ⟨g, 0, none⟩ = some (.int .i64 x) := (blk_cell hb 0).trans rfl
  have hc1 : w.cell? ⟨g, 1, none⟩ = some (.int .i64 y) := (blk_cell hb 1).trans rfl
  have hc2 : w.cell? ⟨g, 2, none⟩ = some (.int .i64 z) := (blk_cell hb 2).trans rfl
  have hf0 := blk_frozen hb 0
  have hf1 := blk_frozen hb 1
  have hf2 := blk_frozen hb 2
  have hd01 : (⟨g, 0, none⟩ : Addr) ≠ ⟨g, 1, none⟩ := by simp
  unfold turnV
  by_cases h0 : axis = 0
  · rw [if_pos h0]
    subst h0
    go_enter Try.func50, Try.ntmps50
    go_wp2
    go_region
    all_goals go_wp2
    all_goals (go_end0; exact ⟨rfl, blk_drew (blk_put (cs := #[.int .i64 x, .int .i64 (wrap64 (-z)), .int .i64 z]) (blk_put (cs := #[.int .i64 x, .int .i64 y, .int .i64 z]) hb 1 _ rfl) 2 _ rfl), only_drew (only_set (only_set (only_refl _ _) (fun k _ hk => hk) _) (fun k _ hk => hk) _)⟩)
  · rw [if_neg h0]
    have d0 : (axis == 0) = false := beq_eq_false_iff_ne.mpr h0
    by_cases h1 : axis = 1
    · rw [if_pos h1]
      subst h1
      go_enter Try.func50, Try.ntmps50
      go_wp2
      go_region
      all_goals go_wp2
      all_goals (go_end0; exact ⟨rfl, blk_drew (blk_put (cs := #[.int .i64 z, .int .i64 y, .int .i64 z]) (blk_put (cs := #[.int .i64 x, .int .i64 y, .int .i64 z]) hb 0 _ rfl) 2 _ rfl), only_drew (only_set (only_set (only_refl _ _) (fun k _ hk => hk) _) (fun k _ hk => hk) _)⟩)
    · rw [if_neg h1]
      have d1 : (axis == 1) = false := beq_eq_false_iff_ne.mpr h1
      go_enter Try.func50, Try.ntmps50
      go_wp2
      go_region
      all_goals go_wp2
      all_goals (go_end0; exact ⟨rfl, blk_drew (blk_put (cs := #[.int .i64 (wrap64 (-y)), .int .i64 y, .int .i64 z]) (blk_put (cs := #[.int .i64 x, .int .i64 y, .int .i64 z]) hb 0 _ rfl) 1 _ rfl), only_drew (only_set (only_set (only_refl _ _) (fun k _ hk => hk) _) (fun k _ hk => hk) _)⟩)

end Go.Proofs.Ytgfkodanekfekaa.X

-- Made by wip/xprint.py for this claim: the kit's printer over the translation, with hand-proved functions in their places. Lean checks it.
import Derived.Test.YtkpojbglckmddaaX0
import Derived.Test.YtkpojbglckmddaaX1
import Derived.Test.YtkpojbglckmddaaX4
namespace Go.Proofs.Ytkpojbglckmddaa.X
open Go.RowKit Go.Proofs.YtkpojbglckmddaaW.PrintWords Go.Proofs.YtkpojbglckmddaaW.PrintLast Go.Proofs.YtkpojbglckmddaaW.PrintMore
attribute [local go_sem] max2_int min2_int max_two min_two max_three min_three max_four min_four   -- for this text's walks alone
set_option linter.unusedVariables false
set_option linter.unusedSimpArgs false

/-! ### metrolabref07_FewSpots: function 30 -/
def metrolabref07_FewSpots.f (l0 : List (S89)) : Option (Bool) := if (l0.length : Int) ≤ 6 then (some true) else (if (l0.length : Int) > 64 then (some (decide ((l0.length : Int) < 128))) else (some false))
set_option maxHeartbeats 8000000 in
set_option maxRecDepth 100000 in
theorem metrolabref07_FewSpots.calls (A0 : Option Addr) (c0 : Nat) (l0 : List (S89)) (r : Bool) (w : World) (hr0 : Kd.C k89 w A0 l0.length l0) (hc0 : l0.length ≤ c0) (h : metrolabref07_FewSpots.f l0 = some r) :
    Calls Try.prog 30 #[.slice A0 l0.length c0] w fun e w' => e = .returned (.bool r) ∧ Drawn0 w w' := by
  have HR0 := Aside0.mk hr0
  have HC0 := Aside0.mk hc0
  clear hr0 hc0
  have H : (if (l0.length : Int) ≤ 6 then (some true) else (if (l0.length : Int) > 64 then (some (decide ((l0.length : Int) < 128))) else (some false))) = some r := h
  clear h
  by_cases c2 : (l0.length : Int) ≤ 6
  · rw [if_pos c2] at H
    have c2b0 : decide ((l0.length : Int) ≤ 6) = true := decide_eq_true c2
    have c2b1 : decide (l0.length ≤ 6) = true := decide_eq_true (by omega)
    clear c2
    obtain rfl := Option.some.inj H
    go_enter Try.func30, Try.ntmps30
    go_wp2
    go_ret
    exact ⟨by first | rfl | (simp; done) | (simp [*]; done), by repeat (first | exact Drawn0.refl _ | apply Drawn0.step)⟩
  · rw [if_neg c2] at H
    have c2b0 : decide ((l0.length : Int) ≤ 6) = false := decide_eq_false c2
    have c2b1 : decide (l0.length ≤ 6) = false := decide_eq_false (by omega)
    clear c2
    by_cases c3 : (l0.length : Int) > 64
    · rw [if_pos c3] at H
      have c3b0 : decide (64 < (l0.length : Int)) = true := decide_eq_true c3
      have c3b1 : decide (64 < l0.length) = true := decide_eq_true (by omega)
      clear c3
      obtain rfl := Option.some.inj H
      go_enter Try.func30, Try.ntmps30
      go_wp2
      go_ret
      exact ⟨by first | rfl | (simp; done) | (simp [*]; done), by repeat (first | exact Drawn0.refl _ | apply Drawn0.step)⟩
    · rw [if_neg c3] at H
      have c3b0 : decide (64 < (l0.length : Int)) = false := decide_eq_false c3
      have c3b1 : decide (64 < l0.length) = false := decide_eq_false (by omega)
      clear c3
      obtain rfl := Option.some.inj H
      go_enter Try.func30, Try.ntmps30
      go_wp2
      go_ret
      exact ⟨by first | rfl | (simp; done) | (simp [*]; done), by repeat (first | exact Drawn0.refl _ | apply Drawn0.step)⟩

-- NOT PRINTED: function 82 (api_Spot_82)

-- NOT PRINTED: function 68 (api_Spot_68)

/-! ### vector_high: function 69 -/
def vector_high.f (a0_0 : Int) (a0_1 : Int) (a0_2 : Int) : Option (Bool) := (vector_within.f a0_0).bind fun t418 => (if t418 = true then ((vector_within.f a0_1).bind fun t419 => (if t419 = true then ((vector_within.f a0_2).bind fun t420 => (some t420)) else (some false))) else (some false))
set_option maxHeartbeats 8000000 in
set_option maxRecDepth 100000 in
theorem vector_high.calls (a0_0 : Int) (a0_1 : Int) (a0_2 : Int) (r : Bool) (w : World) (h : vector_high.f a0_0 a0_1 a0_2 = some r) :
    Calls Try.prog 69 #[.agg #[.int .i64 a0_0, .int .i64 a0_1, .int .i64 a0_2]] w fun e w' => e = .returned (.bool r) ∧ Below w.heap.size w w' := by
  have hu89 := Try.underlying89
  have HB := Aside0.mk (Below.refl w.heap.size w)
  have H : ((vector_within.f a0_0).bind fun t418 => (if t418 = true then ((vector_within.f a0_1).bind fun t419 => (if t419 = true then ((vector_within.f a0_2).bind fun t420 => (some t420)) else (some false))) else (some false))) = some r := h
  clear h
  replace H := Option.bind_eq_some_iff.mp H
  obtain ⟨t418, A20, H⟩ := H
  replace H : (if t418 = true then ((vector_within.f a0_1).bind fun t419 => (if t419 = true then ((vector_within.f a0_2).bind fun t420 => (some t420)) else (some false))) else (some false)) = some r := H
  have A2 := Aside0.mk A20
  clear A20
  by_cases c3 : t418 = true
  · subst c3
    have H1 : ((vector_within.f a0_1).bind fun t419 => (if t419 = true then ((vector_within.f a0_2).bind fun t420 => (some t420)) else (some false))) = some r := by rw [if_pos rfl] at H; exact H
    clear H
    have H := H1
    clear H1
    replace H := Option.bind_eq_some_iff.mp H
    obtain ⟨t419, A40, H⟩ := H
    replace H : (if t419 = true then ((vector_within.f a0_2).bind fun t420 => (some t420)) else (some false)) = some r := H
    have A4 := Aside0.mk A40
    clear A40
    by_cases c5 : t419 = true
    · subst c5
      have H1 : ((vector_within.f a0_2).bind fun t420 => (some t420)) = some r := by rw [if_pos rfl] at H; exact H
      clear H
      have H := H1
      clear H1
      replace H := Option.bind_eq_some_iff.mp H
      obtain ⟨t420, A60, H⟩ := H
      replace H : (some t420) = some r := H
      have A6 := Aside0.mk A60
      clear A60
      obtain rfl := Option.some.inj H
      go_enter Try.func69, Try.ntmps69
      go_wp2_with (first | ((with_reducible refine gate_dst (N := 1) rfl ?_); refine box_event ?hg (N := 1) ?hd (cs := #[.int .i64 a0_0, .int .i64 a0_1, .int .i64 a0_2]) (t := 89) ?hr ?_; (case hd => rfl); (case hg => rfl); (case hr => first | (go_simp; done) | (go_simp; rfl)); intro gb417 hg w7 hbox hb; have n0_ := Aside0.mk (below_step (by repeat (first | (with_reducible first | exact HB.out | apply below_alloc | apply pw_below_drewN | apply below_drew1) | exact HB.out)) hb); have n1_ := Aside0.mk (hbox); have n2_ := Aside0.mk ((by rw [hg]; exact (below_size (by repeat (first | (with_reducible first | exact HB.out | apply below_alloc | apply pw_below_drewN | apply below_drew1) | exact HB.out))) : w.heap.size ≤ gb417)); have n3_ := Aside0.mk ((by rw [hg]; exact (below_size (by repeat (first | (with_reducible first | exact HB.out | apply below_alloc | apply pw_below_drewN | apply below_drew1) | exact HB.out))) : w.heap.size ≤ gb417)); clear HB; have HB := n0_; have BK417 := n1_; have GW417 := n2_; have GE417 := n3_; clear n0_ n1_ n2_ n3_; clear hb hbox hg; have hcz8_0 : w7.cell? ⟨gb417, 0, none⟩ = some (.int .i64 a0_0) := (blk_cell BK417.out 0).trans rfl; have hcz8_1 : w7.cell? ⟨gb417, 1, none⟩ = some (.int .i64 a0_1) := (blk_cell BK417.out 1).trans rfl; have hcz8_2 : w7.cell? ⟨gb417, 2, none⟩ = some (.int .i64 a0_2) := (blk_cell BK417.out 2).trans rfl; have hfz8_0 := blk_frozen BK417.out 0; have hfz8_1 := blk_frozen BK417.out 1; have hfz8_2 := blk_frozen BK417.out 2) | ((with_reducible refine gate_callee (f := 72) rfl ?_); refine goesL_ (some 5) rfl rfl Try.func72 (by kernel_rfl) rfl #[.int .i64 a0_0] rfl (by (try simp only [List.map_toArray, List.map_cons, List.map_nil]); first | done | rfl | (simp only [List.length_drop, List.length_take]; rfl)) ?_; (with_reducible refine (vector_within.calls a0_0 true _ A2.out).mono ?_); rintro e w' ⟨rfl, ⟨nd, rfl⟩⟩; refine ⟨_, rfl, ?_⟩) | (go_at_call 72; (with_reducible refine (vector_within.calls a0_1 true _ A4.out).mono ?_); rintro e w' ⟨rfl, ⟨nd, rfl⟩⟩) | (go_at_call 72; (with_reducible refine (vector_within.calls a0_2 t420 _ A6.out).mono ?_); rintro e w' ⟨rfl, ⟨nd, rfl⟩⟩))
      go_ret
      exact ⟨by first | rfl | (simp [errW_none, errW_some] <;> rfl) | (simp [*, errW_none, errW_some] <;> rfl), by repeat (first | (with_reducible first | exact HB.out | apply below_alloc | apply pw_below_drewN | apply below_drew1 | refine below_set ?_ GE417.out) | exact HB.out)⟩
    · replace c5 := Bool.eq_false_iff.mpr c5
      subst c5
      have H1 : (some false) = some r := by rw [if_neg (show ¬ (false = true) by decide)] at H; exact H
      clear H
      have H := H1
      clear H1
      obtain rfl := Option.some.inj H
      go_enter Try.func69, Try.ntmps69
      go_wp2_with (first | ((with_reducible refine gate_dst (N := 1) rfl ?_); refine box_event ?hg (N := 1) ?hd (cs := #[.int .i64 a0_0, .int .i64 a0_1, .int .i64 a0_2]) (t := 89) ?hr ?_; (case hd => rfl); (case hg => rfl); (case hr => first | (go_simp; done) | (go_simp; rfl)); intro gb417 hg w9 hbox hb; have n0_ := Aside0.mk (below_step (by repeat (first | (with_reducible first | exact HB.out | apply below_alloc | apply pw_below_drewN | apply below_drew1) | exact HB.out)) hb); have n1_ := Aside0.mk (hbox); have n2_ := Aside0.mk ((by rw [hg]; exact (below_size (by repeat (first | (with_reducible first | exact HB.out | apply below_alloc | apply pw_below_drewN | apply below_drew1) | exact HB.out))) : w.heap.size ≤ gb417)); have n3_ := Aside0.mk ((by rw [hg]; exact (below_size (by repeat (first | (with_reducible first | exact HB.out | apply below_alloc | apply pw_below_drewN | apply below_drew1) | exact HB.out))) : w.heap.size ≤ gb417)); clear HB; have HB := n0_; have BK417 := n1_; have GW417 := n2_; have GE417 := n3_; clear n0_ n1_ n2_ n3_; clear hb hbox hg; have hcz10_0 : w9.cell? ⟨gb417, 0, none⟩ = some (.int .i64 a0_0) := (blk_cell BK417.out 0).trans rfl; have hcz10_1 : w9.cell? ⟨gb417, 1, none⟩ = some (.int .i64 a0_1) := (blk_cell BK417.out 1).trans rfl; have hcz10_2 : w9.cell? ⟨gb417, 2, none⟩ = some (.int .i64 a0_2) := (blk_cell BK417.out 2).trans rfl; have hfz10_0 := blk_frozen BK417.out 0; have hfz10_1 := blk_frozen BK417.out 1; have hfz10_2 := blk_frozen BK417.out 2) | ((with_reducible refine gate_callee (f := 72) rfl ?_); refine goesL_ (some 5) rfl rfl Try.func72 (by kernel_rfl) rfl #[.int .i64 a0_0] rfl (by (try simp only [List.map_toArray, List.map_cons, List.map_nil]); first | done | rfl | (simp only [List.length_drop, List.length_take]; rfl)) ?_; (with_reducible refine (vector_within.calls a0_0 true _ A2.out).mono ?_); rintro e w' ⟨rfl, ⟨nd, rfl⟩⟩; refine ⟨_, rfl, ?_⟩) | (go_at_call 72; (with_reducible refine (vector_within.calls a0_1 false _ A4.out).mono ?_); rintro e w' ⟨rfl, ⟨nd, rfl⟩⟩))
      go_ret
      exact ⟨by first | rfl | (simp [errW_none, errW_some] <;> rfl) | (simp [*, errW_none, errW_some] <;> rfl), by repeat (first | (with_reducible first | exact HB.out | apply below_alloc | apply pw_below_drewN | apply below_drew1 | refine below_set ?_ GE417.out) | exact HB.out)⟩
  · replace c3 := Bool.eq_false_iff.mpr c3
    subst c3
    have H1 : (some false) = some r := by rw [if_neg (show ¬ (false = true) by decide)] at H; exact H
    clear H
    have H := H1
    clear H1
    obtain rfl := Option.some.inj H
    go_enter Try.func69, Try.ntmps69
    go_wp2_with (first | ((with_reducible refine gate_dst (N := 1) rfl ?_); refine box_event ?hg (N := 1) ?hd (cs := #[.int .i64 a0_0, .int .i64 a0_1, .int .i64 a0_2]) (t := 89) ?hr ?_; (case hd => rfl); (case hg => rfl); (case hr => first | (go_simp; done) | (go_simp; rfl)); intro gb417 hg w11 hbox hb; have n0_ := Aside0.mk (below_step (by repeat (first | (with_reducible first | exact HB.out | apply below_alloc | apply pw_below_drewN | apply below_drew1) | exact HB.out)) hb); have n1_ := Aside0.mk (hbox); have n2_ := Aside0.mk ((by rw [hg]; exact (below_size (by repeat (first | (with_reducible first | exact HB.out | apply below_alloc | apply pw_below_drewN | apply below_drew1) | exact HB.out))) : w.heap.size ≤ gb417)); have n3_ := Aside0.mk ((by rw [hg]; exact (below_size (by repeat (first | (with_reducible first | exact HB.out | apply below_alloc | apply pw_below_drewN | apply below_drew1) | exact HB.out))) : w.heap.size ≤ gb417)); clear HB; have HB := n0_; have BK417 := n1_; have GW417 := n2_; have GE417 := n3_; clear n0_ n1_ n2_ n3_; clear hb hbox hg; have hcz12_0 : w11.cell? ⟨gb417, 0, none⟩ = some (.int .i64 a0_0) := (blk_cell BK417.out 0).trans rfl; have hcz12_1 : w11.cell? ⟨gb417, 1, none⟩ = some (.int .i64 a0_1) := (blk_cell BK417.out 1).trans rfl; have hcz12_2 : w11.cell? ⟨gb417, 2, none⟩ = some (.int .i64 a0_2) := (blk_cell BK417.out 2).trans rfl; have hfz12_0 := blk_frozen BK417.out 0; have hfz12_1 := blk_frozen BK417.out 1; have hfz12_2 := blk_frozen BK417.out 2) | ((with_reducible refine gate_callee (f := 72) rfl ?_); refine goesL_ (some 5) rfl rfl Try.func72 (by kernel_rfl) rfl #[.int .i64 a0_0] rfl (by (try simp only [List.map_toArray, List.map_cons, List.map_nil]); first | done | rfl | (simp only [List.length_drop, List.length_take]; rfl)) ?_; (with_reducible refine (vector_within.calls a0_0 false _ A2.out).mono ?_); rintro e w' ⟨rfl, ⟨nd, rfl⟩⟩; refine ⟨_, rfl, ?_⟩))
    go_ret
    exact ⟨by first | rfl | (simp [errW_none, errW_some] <;> rfl) | (simp [*, errW_none, errW_some] <;> rfl), by repeat (first | (with_reducible first | exact HB.out | apply below_alloc | apply pw_below_drewN | apply below_drew1 | refine below_set ?_ GE417.out) | exact HB.out)⟩

/-! ### vector_CheckSpots: function 52, proved by hand -/
def inRangeSpot (n : Int) : Bool := decide (-100000 ≤ n) && decide (n ≤ 100000)
/-- a right Spot -/
def okSpot (p : S89) : Bool := inRangeSpot p.f0 && inRangeSpot p.f1 && inRangeSpot p.f2
theorem vector_high_eq (p : S89) : vector_high.f p.f0 p.f1 p.f2 = some (okSpot p) := by
  unfold vector_high.f vector_within.f okSpot inRangeSpot
  grind
def allSpot (l : List S89) : Int := if l.all okSpot then 0 else 2
theorem rd_mem_Spot (l : List S89) (i : Nat) (h : i < l.length) : rd_T89 l i ∈ l := by
  unfold rd_T89
  rw [List.getD_eq_getElem?_getD, Int.toNat_natCast, List.getElem?_eq_getElem h]
  exact List.getElem_mem _
theorem all_rd_Spot (l : List S89) (p : S89 → Bool) (h : ∀ j : Nat, j < l.length → p (rd_T89 l j) = true) : l.all p = true := by
  rw [List.all_eq_true]
  intro x hx
  obtain ⟨j, hj, rfl⟩ := List.getElem_of_mem hx
  have := h j hj
  unfold rd_T89 at this
  rwa [List.getD_eq_getElem?_getD, Int.toNat_natCast, List.getElem?_eq_getElem hj] at this
set_option maxHeartbeats 8000000 in
set_option maxRecDepth 100000 in
theorem allSpot_calls (A0 : Option Addr) (c0 : Nat) (l0 : List S89) (w : World) (hr0 : Kd.C k89 w A0 l0.length l0) (hl : l0.length ≤ 9223372036854775807) :
    Calls Try.prog 82 #[.func (.func 69) #[] #[], .slice A0 l0.length c0] w fun e w' => e = .returned (.int .i64 (allSpot l0)) ∧ Below w.heap.size w w' := by
  have hu25 := Try.underlying89
  have HR0 := Aside0.mk hr0
  clear hr0
  have HB := Aside0.mk (Below.refl w.heap.size w)
  go_enter Try.func82, Try.ntmps82
  go_wp2
  go_loopw [9] (fun v9 w' => ∃ i : Nat, i ≤ l0.length ∧ v9 = .int .i64 i ∧ Aside0 (∀ j : Nat, j < i → okSpot (rd_T89 l0 j) = true) ∧ Aside0 (Below w.heap.size w w')) (fun v9 _ => l0.length - (intOf v9).toNat)
  case atStart => exact ⟨0, Nat.zero_le _, rfl, ⟨fun j hj => absurd hj (by omega)⟩, ⟨HB.out⟩⟩
  case round =>
    obtain ⟨i, hi, rfl, HA, HB1⟩ := hrel
    by_cases hlt : i < l0.length
    · obtain ⟨ad, rfl, h1, h2, h3⟩ := at_T89 (Kd.C_below HR0.out HB1.out) i (by omega) (by omega)
      have hp := vector_high_eq (rd_T89 l0 i)
      have HP := Aside0.mk hp
      clear hp
      have hsz := HB1.out.size
      simp only [Int.toNat_natCast] at h1 h2 h3
      cases hk : okSpot (rd_T89 l0 i)
      · have HK := Aside0.mk hk
        clear hk
        go_wp2_with (go_at_call 69; refine (vector_high.calls _ _ _ _ _ (HP.out.trans (congrArg some HK.out))).mono ?_; rintro e w' ⟨rfl, hb⟩)
        go_ret
        have hall : allSpot l0 = 2 := by
          unfold allSpot
          rw [if_neg]
          intro hh
          have := List.all_eq_true.mp hh (rd_T89 l0 i) (rd_mem_Spot l0 i hlt)
          rw [HK.out] at this; exact absurd this (by decide)
        refine ⟨by rw [hall]; rfl, ?_⟩
        exact below_then (HB1.out.alloc hsz _) (by simp; omega) hb
      · have HK := Aside0.mk hk
        clear hk
        go_wp2_with (go_at_call 69; refine (vector_high.calls _ _ _ _ _ (HP.out.trans (congrArg some HK.out))).mono ?_; rintro e w' ⟨rfl, hb⟩)
        go_roundw
        case rel =>
          refine ⟨i + 1, by omega, by go_num, ⟨fun j hj => ?_⟩, ⟨below_then (HB1.out.alloc hsz _) (by simp; omega) hb⟩⟩
          by_cases e : j = i
          · subst e; exact HK.out
          · exact HA.out j (by omega)
        case measure => simp [intOf]; omega
    · go_wp2
      go_ret
      have hall : allSpot l0 = 0 := by
        unfold allSpot
        rw [if_pos]
        exact all_rd_Spot l0 _ (fun j hj => HA.out j (by omega))
      exact ⟨by rw [hall]; rfl, HB1.out⟩
def vector_CheckSpots.f (l0 : List S89) : Option Int := some (if l0.length > 64 then 5 else allSpot l0)
set_option maxHeartbeats 8000000 in
set_option maxRecDepth 100000 in
theorem checkedSpot_calls (A0 : Option Addr) (c0 : Nat) (l0 : List S89) (r : Int) (w : World) (hr0 : Kd.C k89 w A0 l0.length l0) (h : vector_CheckSpots.f l0 = some r) :
    Calls Try.prog 68 #[.slice A0 l0.length c0, .func (.func 69) #[] #[]] w fun e w' => e = .returned (.int .i64 r) ∧ Below w.heap.size w w' := by
  obtain rfl := Option.some.inj h
  have HR0 := Aside0.mk hr0
  clear hr0 h
  by_cases hl : 64 < l0.length
  · have he : (if l0.length > 64 then 5 else allSpot l0) = 5 := if_pos hl
    rw [he]
    clear he
    go_enter Try.func68, Try.ntmps68
    go_wp2
    go_ret
    exact ⟨rfl, Below.refl _ _⟩
  · have he : (if l0.length > 64 then 5 else allSpot l0) = allSpot l0 := if_neg hl
    rw [he]
    clear he
    have hg : decide (64 < (l0.length : Int)) = false := decide_eq_false (by omega)
    go_enter Try.func68, Try.ntmps68
    go_wp2_with (go_at_call 82; refine (allSpot_calls _ _ _ _ HR0.out (by omega)).mono ?_; rintro e w' ⟨rfl, hb⟩)
    go_ret
    exact ⟨rfl, hb⟩
set_option maxHeartbeats 8000000 in
set_option maxRecDepth 100000 in
theorem vector_CheckSpots.calls (A0 : Option Addr) (c0 : Nat) (l0 : List S89) (r : Int) (w : World) (hr0 : Kd.C k89 w A0 l0.length l0) (hc0 : l0.length ≤ c0) (h : vector_CheckSpots.f l0 = some r) :
    Calls Try.prog 52 #[.slice A0 l0.length c0] w fun e w' => e = .returned (.int .i64 r) ∧ Below w.heap.size w w' := by
  have HR0 := Aside0.mk hr0
  have H := Aside0.mk h
  clear hr0 h
  go_enter Try.func52, Try.ntmps52
  go_wp2_with (go_at_call 68; refine (checkedSpot_calls _ _ _ _ _ HR0.out H.out).mono ?_; rintro e w' ⟨rfl, hb⟩)
  go_ret
  exact ⟨rfl, hb⟩

/-! ### runout_Face: function 31, proved by hand -/
def coord (ax : Int) (p : S89) : Int := if ax = 0 then p.f0 else if ax = 1 then p.f1 else p.f2
def faceV (l : List S89) (ax t : Int) : Bool × Int :=
  let e := (if l.length > 64 then 5 else allSpot l : Int)
  if e ≠ 0 then (false, e) else if l.length = 0 then (false, 13) else if ax < 0 ∨ 3 ≤ ax then (false, 1) else if ¬ (0 ≤ t ∧ t ≤ 100000) then (false, 2) else (decide (wrap64 (lmax (l.map (coord ax)) - lmin (l.map (coord ax))) ≤ t), 0)
theorem face_tol_true {t : Int} (h : 0 ≤ t ∧ t ≤ 100000) : runout_tolerance.f t = some true := by unfold runout_tolerance.f; rw [if_pos h.1, decide_eq_true h.2]
theorem face_tol_false {t : Int} (h : ¬ (0 ≤ t ∧ t ≤ 100000)) : runout_tolerance.f t = some false := by
  unfold runout_tolerance.f
  by_cases h1 : t ≥ 0
  · rw [if_pos h1, decide_eq_false (by omega)]
  · rw [if_neg h1]
set_option maxHeartbeats 8000000 in
set_option maxRecDepth 100000 in
theorem face_0 (A0 : Option Addr) (c0 : Nat) (l0 : List S89) (t : Int) (w : World) (hr0 : Kd.C k89 w A0 l0.length l0) (hc0 : l0.length ≤ c0) (h1 : vector_CheckSpots.f l0 = some 0) (h2 : l0.length ≠ 0) (h64 : l0.length ≤ 64) (h3 : 0 ≤ t ∧ t ≤ 100000) (r : Bool)
    (hr : decide (wrap64 (lmax (l0.map (coord 0)) - lmin (l0.map (coord 0))) ≤ t) = r) :
    Calls Try.prog 31 #[.slice A0 l0.length c0, .int .i64 0, .int .i64 t] w fun e w' => e = .returned (.tuple #[.bool r, .int .i64 0]) ∧ Below w.heap.size w w' := by
  have HR := Aside0.mk hr0
  have HC := Aside0.mk hc0
  have H1 := Aside0.mk h1
  have HT := Aside0.mk (face_tol_true h3)
  have H64 := Aside0.mk h64
  have HN := Aside0.mk h2
  have HRR := Aside0.mk hr
  have g1 : (l0.length == 0) = false := by simpa using h2
  have g2 : ((l0.length : Int) == 0) = false := beq_eq_false_iff_ne.mpr (fun e => h2 (by exact_mod_cast e))
  have hi0 : ∀ (a b c : Int) (W : World), (Instr.index 90 (.agg #[.int .i64 a, .int .i64 b, .int .i64 c]) (.int .i64 0)).run Try.prog W = .ok (.int .i64 a) W := fun a b c W => by kernel_rfl
  have hcoord : ∀ p : S89, coord 0 p = p.f0 := fun p => by unfold coord; simp
  have HCO := Aside0.mk hcoord
  clear hr0 hc0 h1 h2 h64 h3 hr hcoord
  go_enter Try.func31, Try.ntmps31
  go_wp2_with (first
    | (go_at_call 52; refine (vector_CheckSpots.calls _ _ _ _ _ HR.out HC.out H1.out).mono ?_; rintro e w1 ⟨rfl, hb1⟩)
    | (go_at_call 42; refine (runout_tolerance.calls _ _ _ HT.out).mono ?_; rintro e w2 ⟨rfl, hd⟩; obtain ⟨⟨nd, rfl⟩⟩ := hd))
  have HB1 := Aside0.mk (pw_below_drewN hb1 nd)
  clear hb1
  go_loopw [9, 34] (fun v9 v34 wr => ∃ i : Nat, i ≤ l0.length ∧ v34 = .int .i64 i ∧ Aside0 (Below w.heap.size w wr) ∧ Aside0 (Kd.R (Kd.int .i64) 3 wr w.heap.size (fun _ => True) v9 ((l0.take i).map (coord 0)))) (fun _ v34 _ => l0.length - (intOf v34).toNat)
  case atStart => exact ⟨0, Nat.zero_le _, rfl, HB1, ⟨Kd.R_nil _ _ _ _ _⟩⟩
  case round =>
    clear HB1
    obtain ⟨i, hi, rfl, HB, HO⟩ := hrel
    by_cases hlt : i < l0.length
    · obtain ⟨ad, rfl, q1, q2, q3⟩ := at_T89 (Kd.C_below HR.out HB.out) i (by omega) (by omega)
      simp only [Int.toNat_natCast] at q1 q2 q3
      have hsz := HB.out.size
      have HLT := Aside0.mk hlt
      obtain ⟨A9, c9, hv9⟩ := Kd.R_slice HO.out
      have HO2 := Aside0.mk (Kd.R_below HO.out ((Below.refl wr.heap.size wr).alloc (Nat.le_refl _) (.cells #[.int .i64 (rd_T89 l0 i).f0, .int .i64 (rd_T89 l0 i).f1, .int .i64 (rd_T89 l0 i).f2] 89)))
      have HB2 := Aside0.mk (HB.out.alloc hsz (.cells #[.int .i64 (rd_T89 l0 i).f0, .int .i64 (rd_T89 l0 i).f1, .int .i64 (rd_T89 l0 i).f2] 89))
      clear hsz
      have hsm : (i : Int) ≤ 64 := by have := H64.out; omega
      have hll : ((l0.take i).map (coord 0)).length = i := by simp; omega
      have HLL := Aside0.mk hll
      rw [hll] at hv9
      clear hll
      have hlt2 : decide ((i : Int) < (l0.length : Int)) = true := decide_eq_true (by have := HLT.out; omega)
      have hlt3 : decide (i < l0.length) = true := decide_eq_true HLT.out
      subst hv9
      go_wp2_with (at_builtin; refine Kd.R_append (Kd.int .i64) (w0 := w) w.heap.size rfl (.tmp 38) (.tmp 48) 87 3 (.int .i64 0) 8 rfl Try.underlying87 info3 rfl (by decide) (by omega) (.slice A9 i c9) ((l0.take i).map (coord 0)) (rd_T89 l0 i).f0 [.int .i64 (rd_T89 l0 i).f0] (fun _ => True) (fun _ => False) rfl (by first | (go_simp; done) | (go_simp; rfl)) ?aP (fun _ hk => hk.elim) ?aF ?aO ?aB ?aS ?aL ?_; (case aP => exact rfl); (case aB => exact HB2.out); (case aF => exact (fun _ _ => trivial)); (case aO => exact HO2.out); (case aS => exact HB2.out.size); (case aL => (rw [HLL.out]; have := H64.out; omega)); intro v1 w1 ho1 hb1 _ _; obtain ⟨A1, c1, hv1⟩ := Kd.R_slice ho1; rw [List.length_append, HLL.out, List.length_singleton] at hv1; subst hv1)
      have HO1 := Aside0.mk ho1
      have HB1 := Aside0.mk hb1
      clear ho1 hb1
      go_roundw
      case rel =>
        refine ⟨i + 1, by have := HLT.out; omega, by go_num, HB1, ⟨?_⟩⟩
        have he : (l0.take (i + 1)).map (coord 0) = (l0.take i).map (coord 0) ++ [(rd_T89 l0 i).f0] := by
          rw [List.take_succ_eq_append_getElem HLT.out, List.map_append]
          congr 1
          rw [List.map_cons, List.map_nil, HCO.out]
          unfold rd_T89
          rw [Int.toNat_natCast, List.getD_eq_getElem?_getD, List.getElem?_eq_getElem HLT.out]
          rfl
        rw [he]
        exact HO1.out
      case measure => have := HLT.out; simp [intOf]; omega
    · have e : i = l0.length := by omega
      have HO2 := Aside0.mk (show Kd.R (Kd.int .i64) 3 wr w.heap.size (fun _ => True) u9 (l0.map (coord 0)) by have := HO.out; rwa [e, List.take_length] at this)
      have hlt2 : decide ((i : Int) < (l0.length : Int)) = false := decide_eq_false (by omega)
      have hlt3 : decide (i < l0.length) = false := decide_eq_false hlt
      clear HO hlt e hi
      obtain ⟨A9, c9, hv9, hcc, hC9⟩ := Kd.R_reads HO2.out
      have HCC := Aside0.mk hcc
      have HC9 := Aside0.mk hC9
      have hM : slices_Max_int_int.f (l0.map (coord 0)) = some (lmax (l0.map (coord 0))) := by unfold slices_Max_int_int.f; rw [if_neg (by rw [List.length_map]; exact HN.out)]
      have hm : slices_Min_int_int.f (l0.map (coord 0)) = some (lmin (l0.map (coord 0))) := by unfold slices_Min_int_int.f; rw [if_neg (by rw [List.length_map]; exact HN.out)]
      have HMX := Aside0.mk hM
      have HMN := Aside0.mk hm
      clear hcc hC9 hM hm HO2
      subst hv9
      obtain ⟨mxv, hmx⟩ : ∃ q, lmax (l0.map (coord 0)) = q := ⟨_, rfl⟩
      obtain ⟨mnv, hmn⟩ : ∃ q, lmin (l0.map (coord 0)) = q := ⟨_, rfl⟩
      rw [hmx] at HMX HRR
      rw [hmn] at HMN HRR
      clear hmx hmn
      have hrr := HRR.out
      clear HRR
      have HX := Aside0.mk (show ∀ n, Calls Try.prog 53 #[.slice A9 l0.length c9] (wr.drewN n) (fun e w' => e = .returned (.int .i64 mxv) ∧ Drawn0 (wr.drewN n) w') from fun n => by
        have := slices_Max_int_int.calls A9 c9 (l0.map (coord 0)) mxv (wr.drewN n) (show Kd.C (Kd.int .i64) wr _ _ _ from HC9.out) HCC.out HMX.out
        rwa [List.length_map] at this)
      have HX0 := Aside0.mk (HX.out 0)
      have HY := Aside0.mk (show ∀ n, Calls Try.prog 54 #[.slice A9 l0.length c9] (wr.drewN n) (fun e w' => e = .returned (.int .i64 mnv) ∧ Drawn0 (wr.drewN n) w') from fun n => by
        have := slices_Min_int_int.calls A9 c9 (l0.map (coord 0)) mnv (wr.drewN n) (show Kd.C (Kd.int .i64) wr _ _ _ from HC9.out) HCC.out HMN.out
        rwa [List.length_map] at this)
      rw [List.length_map]
      go_wp2_with (first
        | (go_at_call 53; refine HX0.out.mono ?_; rintro e w3 ⟨rfl, hd⟩; obtain ⟨⟨n3, rfl⟩⟩ := hd)
        | (go_at_call 54; refine (HY.out _).mono ?_; rintro e w4 ⟨rfl, hd⟩; obtain ⟨⟨n4, rfl⟩⟩ := hd))
      go_ret2
      exact ⟨by first | rfl | (simp; done), by repeat (first | exact HB.out | apply pw_below_drewN)⟩
set_option maxHeartbeats 8000000 in
set_option maxRecDepth 100000 in
theorem face_1 (A0 : Option Addr) (c0 : Nat) (l0 : List S89) (t : Int) (w : World) (hr0 : Kd.C k89 w A0 l0.length l0) (hc0 : l0.length ≤ c0) (h1 : vector_CheckSpots.f l0 = some 0) (h2 : l0.length ≠ 0) (h64 : l0.length ≤ 64) (h3 : 0 ≤ t ∧ t ≤ 100000) (r : Bool)
    (hr : decide (wrap64 (lmax (l0.map (coord 1)) - lmin (l0.map (coord 1))) ≤ t) = r) :
    Calls Try.prog 31 #[.slice A0 l0.length c0, .int .i64 1, .int .i64 t] w fun e w' => e = .returned (.tuple #[.bool r, .int .i64 0]) ∧ Below w.heap.size w w' := by
  have HR := Aside0.mk hr0
  have HC := Aside0.mk hc0
  have H1 := Aside0.mk h1
  have HT := Aside0.mk (face_tol_true h3)
  have H64 := Aside0.mk h64
  have HN := Aside0.mk h2
  have HRR := Aside0.mk hr
  have g1 : (l0.length == 0) = false := by simpa using h2
  have g2 : ((l0.length : Int) == 0) = false := beq_eq_false_iff_ne.mpr (fun e => h2 (by exact_mod_cast e))
  have hi0 : ∀ (a b c : Int) (W : World), (Instr.index 90 (.agg #[.int .i64 a, .int .i64 b, .int .i64 c]) (.int .i64 1)).run Try.prog W = .ok (.int .i64 b) W := fun a b c W => by kernel_rfl
  have hcoord : ∀ p : S89, coord 1 p = p.f1 := fun p => by unfold coord; simp
  have HCO := Aside0.mk hcoord
  clear hr0 hc0 h1 h2 h64 h3 hr hcoord
  go_enter Try.func31, Try.ntmps31
  go_wp2_with (first
    | (go_at_call 52; refine (vector_CheckSpots.calls _ _ _ _ _ HR.out HC.out H1.out).mono ?_; rintro e w1 ⟨rfl, hb1⟩)
    | (go_at_call 42; refine (runout_tolerance.calls _ _ _ HT.out).mono ?_; rintro e w2 ⟨rfl, hd⟩; obtain ⟨⟨nd, rfl⟩⟩ := hd))
  have HB1 := Aside0.mk (pw_below_drewN hb1 nd)
  clear hb1
  go_loopw [9, 34] (fun v9 v34 wr => ∃ i : Nat, i ≤ l0.length ∧ v34 = .int .i64 i ∧ Aside0 (Below w.heap.size w wr) ∧ Aside0 (Kd.R (Kd.int .i64) 3 wr w.heap.size (fun _ => True) v9 ((l0.take i).map (coord 1)))) (fun _ v34 _ => l0.length - (intOf v34).toNat)
  case atStart => exact ⟨0, Nat.zero_le _, rfl, HB1, ⟨Kd.R_nil _ _ _ _ _⟩⟩
  case round =>
    clear HB1
    obtain ⟨i, hi, rfl, HB, HO⟩ := hrel
    by_cases hlt : i < l0.length
    · obtain ⟨ad, rfl, q1, q2, q3⟩ := at_T89 (Kd.C_below HR.out HB.out) i (by omega) (by omega)
      simp only [Int.toNat_natCast] at q1 q2 q3
      have hsz := HB.out.size
      have HLT := Aside0.mk hlt
      obtain ⟨A9, c9, hv9⟩ := Kd.R_slice HO.out
      have HO2 := Aside0.mk (Kd.R_below HO.out ((Below.refl wr.heap.size wr).alloc (Nat.le_refl _) (.cells #[.int .i64 (rd_T89 l0 i).f0, .int .i64 (rd_T89 l0 i).f1, .int .i64 (rd_T89 l0 i).f2] 89)))
      have HB2 := Aside0.mk (HB.out.alloc hsz (.cells #[.int .i64 (rd_T89 l0 i).f0, .int .i64 (rd_T89 l0 i).f1, .int .i64 (rd_T89 l0 i).f2] 89))
      clear hsz
      have hsm : (i : Int) ≤ 64 := by have := H64.out; omega
      have hll : ((l0.take i).map (coord 1)).length = i := by simp; omega
      have HLL := Aside0.mk hll
      rw [hll] at hv9
      clear hll
      have hlt2 : decide ((i : Int) < (l0.length : Int)) = true := decide_eq_true (by have := HLT.out; omega)
      have hlt3 : decide (i < l0.length) = true := decide_eq_true HLT.out
      subst hv9
      go_wp2_with (at_builtin; refine Kd.R_append (Kd.int .i64) (w0 := w) w.heap.size rfl (.tmp 38) (.tmp 48) 87 3 (.int .i64 0) 8 rfl Try.underlying87 info3 rfl (by decide) (by omega) (.slice A9 i c9) ((l0.take i).map (coord 1)) (rd_T89 l0 i).f1 [.int .i64 (rd_T89 l0 i).f1] (fun _ => True) (fun _ => False) rfl (by first | (go_simp; done) | (go_simp; rfl)) ?aP (fun _ hk => hk.elim) ?aF ?aO ?aB ?aS ?aL ?_; (case aP => exact rfl); (case aB => exact HB2.out); (case aF => exact (fun _ _ => trivial)); (case aO => exact HO2.out); (case aS => exact HB2.out.size); (case aL => (rw [HLL.out]; have := H64.out; omega)); intro v1 w1 ho1 hb1 _ _; obtain ⟨A1, c1, hv1⟩ := Kd.R_slice ho1; rw [List.length_append, HLL.out, List.length_singleton] at hv1; subst hv1)
      have HO1 := Aside0.mk ho1
      have HB1 := Aside0.mk hb1
      clear ho1 hb1
      go_roundw
      case rel =>
        refine ⟨i + 1, by have := HLT.out; omega, by go_num, HB1, ⟨?_⟩⟩
        have he : (l0.take (i + 1)).map (coord 1) = (l0.take i).map (coord 1) ++ [(rd_T89 l0 i).f1] := by
          rw [List.take_succ_eq_append_getElem HLT.out, List.map_append]
          congr 1
          rw [List.map_cons, List.map_nil, HCO.out]
          unfold rd_T89
          rw [Int.toNat_natCast, List.getD_eq_getElem?_getD, List.getElem?_eq_getElem HLT.out]
          rfl
        rw [he]
        exact HO1.out
      case measure => have := HLT.out; simp [intOf]; omega
    · have e : i = l0.length := by omega
      have HO2 := Aside0.mk (show Kd.R (Kd.int .i64) 3 wr w.heap.size (fun _ => True) u9 (l0.map (coord 1)) by have := HO.out; rwa [e, List.take_length] at this)
      have hlt2 : decide ((i : Int) < (l0.length : Int)) = false := decide_eq_false (by omega)
      have hlt3 : decide (i < l0.length) = false := decide_eq_false hlt
      clear HO hlt e hi
      obtain ⟨A9, c9, hv9, hcc, hC9⟩ := Kd.R_reads HO2.out
      have HCC := Aside0.mk hcc
      have HC9 := Aside0.mk hC9
      have hM : slices_Max_int_int.f (l0.map (coord 1)) = some (lmax (l0.map (coord 1))) := by unfold slices_Max_int_int.f; rw [if_neg (by rw [List.length_map]; exact HN.out)]
      have hm : slices_Min_int_int.f (l0.map (coord 1)) = some (lmin (l0.map (coord 1))) := by unfold slices_Min_int_int.f; rw [if_neg (by rw [List.length_map]; exact HN.out)]
      have HMX := Aside0.mk hM
      have HMN := Aside0.mk hm
      clear hcc hC9 hM hm HO2
      subst hv9
      obtain ⟨mxv, hmx⟩ : ∃ q, lmax (l0.map (coord 1)) = q := ⟨_, rfl⟩
      obtain ⟨mnv, hmn⟩ : ∃ q, lmin (l0.map (coord 1)) = q := ⟨_, rfl⟩
      rw [hmx] at HMX HRR
      rw [hmn] at HMN HRR
      clear hmx hmn
      have hrr := HRR.out
      clear HRR
      have HX := Aside0.mk (show ∀ n, Calls Try.prog 53 #[.slice A9 l0.length c9] (wr.drewN n) (fun e w' => e = .returned (.int .i64 mxv) ∧ Drawn0 (wr.drewN n) w') from fun n => by
        have := slices_Max_int_int.calls A9 c9 (l0.map (coord 1)) mxv (wr.drewN n) (show Kd.C (Kd.int .i64) wr _ _ _ from HC9.out) HCC.out HMX.out
        rwa [List.length_map] at this)
      have HX0 := Aside0.mk (HX.out 0)
      have HY := Aside0.mk (show ∀ n, Calls Try.prog 54 #[.slice A9 l0.length c9] (wr.drewN n) (fun e w' => e = .returned (.int .i64 mnv) ∧ Drawn0 (wr.drewN n) w') from fun n => by
        have := slices_Min_int_int.calls A9 c9 (l0.map (coord 1)) mnv (wr.drewN n) (show Kd.C (Kd.int .i64) wr _ _ _ from HC9.out) HCC.out HMN.out
        rwa [List.length_map] at this)
      rw [List.length_map]
      go_wp2_with (first
        | (go_at_call 53; refine HX0.out.mono ?_; rintro e w3 ⟨rfl, hd⟩; obtain ⟨⟨n3, rfl⟩⟩ := hd)
        | (go_at_call 54; refine (HY.out _).mono ?_; rintro e w4 ⟨rfl, hd⟩; obtain ⟨⟨n4, rfl⟩⟩ := hd))
      go_ret2
      exact ⟨by first | rfl | (simp; done), by repeat (first | exact HB.out | apply pw_below_drewN)⟩
set_option maxHeartbeats 8000000 in
set_option maxRecDepth 100000 in
theorem face_2 (A0 : Option Addr) (c0 : Nat) (l0 : List S89) (t : Int) (w : World) (hr0 : Kd.C k89 w A0 l0.length l0) (hc0 : l0.length ≤ c0) (h1 : vector_CheckSpots.f l0 = some 0) (h2 : l0.length ≠ 0) (h64 : l0.length ≤ 64) (h3 : 0 ≤ t ∧ t ≤ 100000) (r : Bool)
    (hr : decide (wrap64 (lmax (l0.map (coord 2)) - lmin (l0.map (coord 2))) ≤ t) = r) :
    Calls Try.prog 31 #[.slice A0 l0.length c0, .int .i64 2, .int .i64 t] w fun e w' => e = .returned (.tuple #[.bool r, .int .i64 0]) ∧ Below w.heap.size w w' := by
  have HR := Aside0.mk hr0
  have HC := Aside0.mk hc0
  have H1 := Aside0.mk h1
  have HT := Aside0.mk (face_tol_true h3)
  have H64 := Aside0.mk h64
  have HN := Aside0.mk h2
  have HRR := Aside0.mk hr
  have g1 : (l0.length == 0) = false := by simpa using h2
  have g2 : ((l0.length : Int) == 0) = false := beq_eq_false_iff_ne.mpr (fun e => h2 (by exact_mod_cast e))
  have hi0 : ∀ (a b c : Int) (W : World), (Instr.index 90 (.agg #[.int .i64 a, .int .i64 b, .int .i64 c]) (.int .i64 2)).run Try.prog W = .ok (.int .i64 c) W := fun a b c W => by kernel_rfl
  have hcoord : ∀ p : S89, coord 2 p = p.f2 := fun p => by unfold coord; simp
  have HCO := Aside0.mk hcoord
  clear hr0 hc0 h1 h2 h64 h3 hr hcoord
  go_enter Try.func31, Try.ntmps31
  go_wp2_with (first
    | (go_at_call 52; refine (vector_CheckSpots.calls _ _ _ _ _ HR.out HC.out H1.out).mono ?_; rintro e w1 ⟨rfl, hb1⟩)
    | (go_at_call 42; refine (runout_tolerance.calls _ _ _ HT.out).mono ?_; rintro e w2 ⟨rfl, hd⟩; obtain ⟨⟨nd, rfl⟩⟩ := hd))
  have HB1 := Aside0.mk (pw_below_drewN hb1 nd)
  clear hb1
  go_loopw [9, 34] (fun v9 v34 wr => ∃ i : Nat, i ≤ l0.length ∧ v34 = .int .i64 i ∧ Aside0 (Below w.heap.size w wr) ∧ Aside0 (Kd.R (Kd.int .i64) 3 wr w.heap.size (fun _ => True) v9 ((l0.take i).map (coord 2)))) (fun _ v34 _ => l0.length - (intOf v34).toNat)
  case atStart => exact ⟨0, Nat.zero_le _, rfl, HB1, ⟨Kd.R_nil _ _ _ _ _⟩⟩
  case round =>
    clear HB1
    obtain ⟨i, hi, rfl, HB, HO⟩ := hrel
    by_cases hlt : i < l0.length
    · obtain ⟨ad, rfl, q1, q2, q3⟩ := at_T89 (Kd.C_below HR.out HB.out) i (by omega) (by omega)
      simp only [Int.toNat_natCast] at q1 q2 q3
      have hsz := HB.out.size
      have HLT := Aside0.mk hlt
      obtain ⟨A9, c9, hv9⟩ := Kd.R_slice HO.out
      have HO2 := Aside0.mk (Kd.R_below HO.out ((Below.refl wr.heap.size wr).alloc (Nat.le_refl _) (.cells #[.int .i64 (rd_T89 l0 i).f0, .int .i64 (rd_T89 l0 i).f1, .int .i64 (rd_T89 l0 i).f2] 89)))
      have HB2 := Aside0.mk (HB.out.alloc hsz (.cells #[.int .i64 (rd_T89 l0 i).f0, .int .i64 (rd_T89 l0 i).f1, .int .i64 (rd_T89 l0 i).f2] 89))
      clear hsz
      have hsm : (i : Int) ≤ 64 := by have := H64.out; omega
      have hll : ((l0.take i).map (coord 2)).length = i := by simp; omega
      have HLL := Aside0.mk hll
      rw [hll] at hv9
      clear hll
      have hlt2 : decide ((i : Int) < (l0.length : Int)) = true := decide_eq_true (by have := HLT.out; omega)
      have hlt3 : decide (i < l0.length) = true := decide_eq_true HLT.out
      subst hv9
      go_wp2_with (at_builtin; refine Kd.R_append (Kd.int .i64) (w0 := w) w.heap.size rfl (.tmp 38) (.tmp 48) 87 3 (.int .i64 0) 8 rfl Try.underlying87 info3 rfl (by decide) (by omega) (.slice A9 i c9) ((l0.take i).map (coord 2)) (rd_T89 l0 i).f2 [.int .i64 (rd_T89 l0 i).f2] (fun _ => True) (fun _ => False) rfl (by first | (go_simp; done) | (go_simp; rfl)) ?aP (fun _ hk => hk.elim) ?aF ?aO ?aB ?aS ?aL ?_; (case aP => exact rfl); (case aB => exact HB2.out); (case aF => exact (fun _ _ => trivial)); (case aO => exact HO2.out); (case aS => exact HB2.out.size); (case aL => (rw [HLL.out]; have := H64.out; omega)); intro v1 w1 ho1 hb1 _ _; obtain ⟨A1, c1, hv1⟩ := Kd.R_slice ho1; rw [List.length_append, HLL.out, List.length_singleton] at hv1; subst hv1)
      have HO1 := Aside0.mk ho1
      have HB1 := Aside0.mk hb1
      clear ho1 hb1
      go_roundw
      case rel =>
        refine ⟨i + 1, by have := HLT.out; omega, by go_num, HB1, ⟨?_⟩⟩
        have he : (l0.take (i + 1)).map (coord 2) = (l0.take i).map (coord 2) ++ [(rd_T89 l0 i).f2] := by
          rw [List.take_succ_eq_append_getElem HLT.out, List.map_append]
          congr 1
          rw [List.map_cons, List.map_nil, HCO.out]
          unfold rd_T89
          rw [Int.toNat_natCast, List.getD_eq_getElem?_getD, List.getElem?_eq_getElem HLT.out]
          rfl
        rw [he]
        exact HO1.out
      case measure => have := HLT.out; simp [intOf]; omega
    · have e : i = l0.length := by omega
      have HO2 := Aside0.mk (show Kd.R (Kd.int .i64) 3 wr w.heap.size (fun _ => True) u9 (l0.map (coord 2)) by have := HO.out; rwa [e, List.take_length] at this)
      have hlt2 : decide ((i : Int) < (l0.length : Int)) = false := decide_eq_false (by omega)
      have hlt3 : decide (i < l0.length) = false := decide_eq_false hlt
      clear HO hlt e hi
      obtain ⟨A9, c9, hv9, hcc, hC9⟩ := Kd.R_reads HO2.out
      have HCC := Aside0.mk hcc
      have HC9 := Aside0.mk hC9
      have hM : slices_Max_int_int.f (l0.map (coord 2)) = some (lmax (l0.map (coord 2))) := by unfold slices_Max_int_int.f; rw [if_neg (by rw [List.length_map]; exact HN.out)]
      have hm : slices_Min_int_int.f (l0.map (coord 2)) = some (lmin (l0.map (coord 2))) := by unfold slices_Min_int_int.f; rw [if_neg (by rw [List.length_map]; exact HN.out)]
      have HMX := Aside0.mk hM
      have HMN := Aside0.mk hm
      clear hcc hC9 hM hm HO2
      subst hv9
      obtain ⟨mxv, hmx⟩ : ∃ q, lmax (l0.map (coord 2)) = q := ⟨_, rfl⟩
      obtain ⟨mnv, hmn⟩ : ∃ q, lmin (l0.map (coord 2)) = q := ⟨_, rfl⟩
      rw [hmx] at HMX HRR
      rw [hmn] at HMN HRR
      clear hmx hmn
      have hrr := HRR.out
      clear HRR
      have HX := Aside0.mk (show ∀ n, Calls Try.prog 53 #[.slice A9 l0.length c9] (wr.drewN n) (fun e w' => e = .returned (.int .i64 mxv) ∧ Drawn0 (wr.drewN n) w') from fun n => by
        have := slices_Max_int_int.calls A9 c9 (l0.map (coord 2)) mxv (wr.drewN n) (show Kd.C (Kd.int .i64) wr _ _ _ from HC9.out) HCC.out HMX.out
        rwa [List.length_map] at this)
      have HX0 := Aside0.mk (HX.out 0)
      have HY := Aside0.mk (show ∀ n, Calls Try.prog 54 #[.slice A9 l0.length c9] (wr.drewN n) (fun e w' => e = .returned (.int .i64 mnv) ∧ Drawn0 (wr.drewN n) w') from fun n => by
        have := slices_Min_int_int.calls A9 c9 (l0.map (coord 2)) mnv (wr.drewN n) (show Kd.C (Kd.int .i64) wr _ _ _ from HC9.out) HCC.out HMN.out
        rwa [List.length_map] at this)
      rw [List.length_map]
      go_wp2_with (first
        | (go_at_call 53; refine HX0.out.mono ?_; rintro e w3 ⟨rfl, hd⟩; obtain ⟨⟨n3, rfl⟩⟩ := hd)
        | (go_at_call 54; refine (HY.out _).mono ?_; rintro e w4 ⟨rfl, hd⟩; obtain ⟨⟨n4, rfl⟩⟩ := hd))
      go_ret2
      exact ⟨by first | rfl | (simp; done), by repeat (first | exact HB.out | apply pw_below_drewN)⟩
set_option maxHeartbeats 8000000 in
set_option maxRecDepth 100000 in
theorem face_bad (A0 : Option Addr) (c0 : Nat) (l0 : List S89) (ax t e0 : Int) (w : World) (hr0 : Kd.C k89 w A0 l0.length l0) (hc0 : l0.length ≤ c0) (h1 : vector_CheckSpots.f l0 = some e0) (h0 : e0 ≠ 0) :
    Calls Try.prog 31 #[.slice A0 l0.length c0, .int .i64 ax, .int .i64 t] w fun e w' => e = .returned (.tuple #[.bool false, .int .i64 e0]) ∧ Below w.heap.size w w' := by
  have HR := Aside0.mk hr0
  have HC := Aside0.mk hc0
  have g1 : (e0 != 0) = true := by simp [h0]
  have g2 : (e0 == 0) = false := by simp [h0]
  have H1 := Aside0.mk h1
  clear hr0 hc0 h1
  go_enter Try.func31, Try.ntmps31
  go_wp2_with (first
    | (go_at_call 52; refine (vector_CheckSpots.calls _ _ _ _ _ HR.out HC.out H1.out).mono ?_; rintro e w1 ⟨rfl, hb1⟩)
    | (go_at_call 42; refine (runout_tolerance.calls _ _ _ HT.out).mono ?_; rintro e w2 ⟨rfl, hd⟩; obtain ⟨⟨nd, rfl⟩⟩ := hd))
  go_ret2
  exact ⟨by first | rfl | (simp; done), by repeat (first | exact hb1 | apply pw_below_drewN)⟩
set_option maxHeartbeats 8000000 in
set_option maxRecDepth 100000 in
theorem face_empty (A0 : Option Addr) (c0 : Nat) (l0 : List S89) (ax t e0 : Int) (w : World) (hr0 : Kd.C k89 w A0 l0.length l0) (hc0 : l0.length ≤ c0) (h1 : vector_CheckSpots.f l0 = some e0) (h0 : e0 = 0) (h2 : l0.length = 0) :
    Calls Try.prog 31 #[.slice A0 l0.length c0, .int .i64 ax, .int .i64 t] w fun e w' => e = .returned (.tuple #[.bool false, .int .i64 13]) ∧ Below w.heap.size w w' := by
  have HR := Aside0.mk hr0
  have HC := Aside0.mk hc0
  subst h0
  have g1 : (l0.length == 0) = true := by simp [h2]
  have g2 : ((l0.length : Int) == 0) = true := by simp [h2]
  clear h2
  have H1 := Aside0.mk h1
  clear hr0 hc0 h1
  go_enter Try.func31, Try.ntmps31
  go_wp2_with (first
    | (go_at_call 52; refine (vector_CheckSpots.calls _ _ _ _ _ HR.out HC.out H1.out).mono ?_; rintro e w1 ⟨rfl, hb1⟩)
    | (go_at_call 42; refine (runout_tolerance.calls _ _ _ HT.out).mono ?_; rintro e w2 ⟨rfl, hd⟩; obtain ⟨⟨nd, rfl⟩⟩ := hd))
  go_ret2
  exact ⟨by first | rfl | (simp; done), by repeat (first | exact hb1 | apply pw_below_drewN)⟩
set_option maxHeartbeats 8000000 in
set_option maxRecDepth 100000 in
theorem face_low (A0 : Option Addr) (c0 : Nat) (l0 : List S89) (ax t e0 : Int) (w : World) (hr0 : Kd.C k89 w A0 l0.length l0) (hc0 : l0.length ≤ c0) (h1 : vector_CheckSpots.f l0 = some e0) (h0 : e0 = 0) (h2 : l0.length ≠ 0) (h3 : ax < 0) :
    Calls Try.prog 31 #[.slice A0 l0.length c0, .int .i64 ax, .int .i64 t] w fun e w' => e = .returned (.tuple #[.bool false, .int .i64 1]) ∧ Below w.heap.size w w' := by
  have HR := Aside0.mk hr0
  have HC := Aside0.mk hc0
  subst h0
  have g1 : (l0.length == 0) = false := by simpa using h2
  have g2 : ((l0.length : Int) == 0) = false := beq_eq_false_iff_ne.mpr (fun e => h2 (by exact_mod_cast e))
  have g3 : decide (ax < 0) = true := decide_eq_true h3
  clear h2 h3
  have H1 := Aside0.mk h1
  clear hr0 hc0 h1
  go_enter Try.func31, Try.ntmps31
  go_wp2_with (first
    | (go_at_call 52; refine (vector_CheckSpots.calls _ _ _ _ _ HR.out HC.out H1.out).mono ?_; rintro e w1 ⟨rfl, hb1⟩)
    | (go_at_call 42; refine (runout_tolerance.calls _ _ _ HT.out).mono ?_; rintro e w2 ⟨rfl, hd⟩; obtain ⟨⟨nd, rfl⟩⟩ := hd))
  go_ret2
  exact ⟨by first | rfl | (simp; done), by repeat (first | exact hb1 | apply pw_below_drewN)⟩
set_option maxHeartbeats 8000000 in
set_option maxRecDepth 100000 in
theorem face_high (A0 : Option Addr) (c0 : Nat) (l0 : List S89) (ax t e0 : Int) (w : World) (hr0 : Kd.C k89 w A0 l0.length l0) (hc0 : l0.length ≤ c0) (h1 : vector_CheckSpots.f l0 = some e0) (h0 : e0 = 0) (h2 : l0.length ≠ 0) (h3 : 3 ≤ ax) :
    Calls Try.prog 31 #[.slice A0 l0.length c0, .int .i64 ax, .int .i64 t] w fun e w' => e = .returned (.tuple #[.bool false, .int .i64 1]) ∧ Below w.heap.size w w' := by
  have HR := Aside0.mk hr0
  have HC := Aside0.mk hc0
  subst h0
  have g1 : (l0.length == 0) = false := by simpa using h2
  have g2 : ((l0.length : Int) == 0) = false := beq_eq_false_iff_ne.mpr (fun e => h2 (by exact_mod_cast e))
  have g3 : decide (ax < 0) = false := decide_eq_false (by omega)
  have g4 : decide (3 ≤ ax) = true := decide_eq_true h3
  clear h2 h3
  have H1 := Aside0.mk h1
  clear hr0 hc0 h1
  go_enter Try.func31, Try.ntmps31
  go_wp2_with (first
    | (go_at_call 52; refine (vector_CheckSpots.calls _ _ _ _ _ HR.out HC.out H1.out).mono ?_; rintro e w1 ⟨rfl, hb1⟩)
    | (go_at_call 42; refine (runout_tolerance.calls _ _ _ HT.out).mono ?_; rintro e w2 ⟨rfl, hd⟩; obtain ⟨⟨nd, rfl⟩⟩ := hd))
  go_ret2
  exact ⟨by first | rfl | (simp; done), by repeat (first | exact hb1 | apply pw_below_drewN)⟩
set_option maxHeartbeats 8000000 in
set_option maxRecDepth 100000 in
theorem face_tol (A0 : Option Addr) (c0 : Nat) (l0 : List S89) (ax t e0 : Int) (w : World) (hr0 : Kd.C k89 w A0 l0.length l0) (hc0 : l0.length ≤ c0) (h1 : vector_CheckSpots.f l0 = some e0) (h0 : e0 = 0) (h2 : l0.length ≠ 0) (h3 : 0 ≤ ax) (h4 : ax < 3) (h5 : ¬ (0 ≤ t ∧ t ≤ 100000)) :
    Calls Try.prog 31 #[.slice A0 l0.length c0, .int .i64 ax, .int .i64 t] w fun e w' => e = .returned (.tuple #[.bool false, .int .i64 2]) ∧ Below w.heap.size w w' := by
  have HR := Aside0.mk hr0
  have HC := Aside0.mk hc0
  subst h0
  have g1 : (l0.length == 0) = false := by simpa using h2
  have g2 : ((l0.length : Int) == 0) = false := beq_eq_false_iff_ne.mpr (fun e => h2 (by exact_mod_cast e))
  have g3 : decide (ax < 0) = false := decide_eq_false (by omega)
  have g4 : decide (3 ≤ ax) = false := decide_eq_false (by omega)
  have HT := Aside0.mk (face_tol_false h5)
  clear h2 h3 h4 h5
  have H1 := Aside0.mk h1
  clear hr0 hc0 h1
  go_enter Try.func31, Try.ntmps31
  go_wp2_with (first
    | (go_at_call 52; refine (vector_CheckSpots.calls _ _ _ _ _ HR.out HC.out H1.out).mono ?_; rintro e w1 ⟨rfl, hb1⟩)
    | (go_at_call 42; refine (runout_tolerance.calls _ _ _ HT.out).mono ?_; rintro e w2 ⟨rfl, hd⟩; obtain ⟨⟨nd, rfl⟩⟩ := hd))
  go_ret2
  exact ⟨by first | rfl | (simp; done), by repeat (first | exact hb1 | apply pw_below_drewN)⟩
def runout_Face.f (l0 : List S89) (a1 a2 : Int) : Option (Bool × Int) := some (faceV l0 a1 a2)
theorem runout_Face.calls (A0 : Option Addr) (c0 : Nat) (l0 : List S89) (a1 a2 : Int) (r1 : Bool) (r2 : Int) (w : World) (hr0 : Kd.C k89 w A0 l0.length l0) (hc0 : l0.length ≤ c0) (h : runout_Face.f l0 a1 a2 = some (r1, r2)) :
    Calls Try.prog 31 #[.slice A0 l0.length c0, .int .i64 a1, .int .i64 a2] w fun e w' => e = .returned (.tuple #[.bool r1, .int .i64 r2]) ∧ Below w.heap.size w w' := by
  obtain ⟨rfl, rfl⟩ : (faceV l0 a1 a2).1 = r1 ∧ (faceV l0 a1 a2).2 = r2 := by have := Option.some.inj h; rw [this]; exact ⟨rfl, rfl⟩
  clear h
  have hck : vector_CheckSpots.f l0 = some (if l0.length > 64 then 5 else allSpot l0) := rfl
  obtain ⟨e, he⟩ : ∃ e : Int, e = if l0.length > 64 then 5 else allSpot l0 := ⟨_, rfl⟩
  rw [← he] at hck
  unfold faceV
  rw [← he]
  by_cases h0 : e = 0
  · have h64 : l0.length ≤ 64 := by
      rcases Nat.lt_or_ge 64 l0.length with h | h
      · rw [if_pos h] at he; omega
      · exact h
    rw [if_neg (fun h => h h0)]
    by_cases h2 : l0.length = 0
    · rw [if_pos h2]; exact face_empty A0 c0 l0 a1 a2 e w hr0 hc0 hck h0 h2
    · rw [if_neg h2]
      by_cases h3 : a1 < 0
      · rw [if_pos (Or.inl h3)]; exact face_low A0 c0 l0 a1 a2 e w hr0 hc0 hck h0 h2 h3
      · by_cases h4 : 3 ≤ a1
        · rw [if_pos (Or.inr h4)]; exact face_high A0 c0 l0 a1 a2 e w hr0 hc0 hck h0 h2 h4
        · rw [if_neg (by omega)]
          by_cases h5 : 0 ≤ a2 ∧ a2 ≤ 100000
          · rw [if_neg (fun h => h h5)]
            subst h0
            have : a1 = 0 ∨ a1 = 1 ∨ a1 = 2 := by omega
            rcases this with rfl | rfl | rfl
            · exact face_0 A0 c0 l0 a2 w hr0 hc0 hck h2 h64 h5 _ rfl
            · exact face_1 A0 c0 l0 a2 w hr0 hc0 hck h2 h64 h5 _ rfl
            · exact face_2 A0 c0 l0 a2 w hr0 hc0 hck h2 h64 h5 _ rfl
          · rw [if_pos h5]; exact face_tol A0 c0 l0 a1 a2 e w hr0 hc0 hck h0 h2 (by omega) (by omega) h5
  · rw [if_pos h0]; exact face_bad A0 c0 l0 a1 a2 e w hr0 hc0 hck h0

/-! ### metrolabref07_RightSpot: function 70 -/
def metrolabref07_RightSpot.f (a0_0 : Int) (a0_1 : Int) (a0_2 : Int) : Option (Bool) := (metrolabref07_in.f a0_0).bind fun t422 => (if t422 = true then ((metrolabref07_in.f a0_1).bind fun t423 => (if t423 = true then ((metrolabref07_in.f a0_2).bind fun t424 => (some t424)) else (some false))) else (some false))
set_option maxHeartbeats 8000000 in
set_option maxRecDepth 100000 in
theorem metrolabref07_RightSpot.calls (a0_0 : Int) (a0_1 : Int) (a0_2 : Int) (r : Bool) (w : World) (h : metrolabref07_RightSpot.f a0_0 a0_1 a0_2 = some r) :
    Calls Try.prog 70 #[.agg #[.int .i64 a0_0, .int .i64 a0_1, .int .i64 a0_2]] w fun e w' => e = .returned (.bool r) ∧ Below w.heap.size w w' := by
  have hu89 := Try.underlying89
  have HB := Aside0.mk (Below.refl w.heap.size w)
  have H : ((metrolabref07_in.f a0_0).bind fun t422 => (if t422 = true then ((metrolabref07_in.f a0_1).bind fun t423 => (if t423 = true then ((metrolabref07_in.f a0_2).bind fun t424 => (some t424)) else (some false))) else (some false))) = some r := h
  clear h
  replace H := Option.bind_eq_some_iff.mp H
  obtain ⟨t422, A20, H⟩ := H
  replace H : (if t422 = true then ((metrolabref07_in.f a0_1).bind fun t423 => (if t423 = true then ((metrolabref07_in.f a0_2).bind fun t424 => (some t424)) else (some false))) else (some false)) = some r := H
  have A2 := Aside0.mk A20
  clear A20
  by_cases c3 : t422 = true
  · subst c3
    have H1 : ((metrolabref07_in.f a0_1).bind fun t423 => (if t423 = true then ((metrolabref07_in.f a0_2).bind fun t424 => (some t424)) else (some false))) = some r := by rw [if_pos rfl] at H; exact H
    clear H
    have H := H1
    clear H1
    replace H := Option.bind_eq_some_iff.mp H
    obtain ⟨t423, A40, H⟩ := H
    replace H : (if t423 = true then ((metrolabref07_in.f a0_2).bind fun t424 => (some t424)) else (some false)) = some r := H
    have A4 := Aside0.mk A40
    clear A40
    by_cases c5 : t423 = true
    · subst c5
      have H1 : ((metrolabref07_in.f a0_2).bind fun t424 => (some t424)) = some r := by rw [if_pos rfl] at H; exact H
      clear H
      have H := H1
      clear H1
      replace H := Option.bind_eq_some_iff.mp H
      obtain ⟨t424, A60, H⟩ := H
      replace H : (some t424) = some r := H
      have A6 := Aside0.mk A60
      clear A60
      obtain rfl := Option.some.inj H
      go_enter Try.func70, Try.ntmps70
      go_wp2_with (first | ((with_reducible refine gate_dst (N := 1) rfl ?_); refine box_event ?hg (N := 1) ?hd (cs := #[.int .i64 a0_0, .int .i64 a0_1, .int .i64 a0_2]) (t := 89) ?hr ?_; (case hd => rfl); (case hg => rfl); (case hr => first | (go_simp; done) | (go_simp; rfl)); intro gb421 hg w7 hbox hb; have n0_ := Aside0.mk (below_step (by repeat (first | (with_reducible first | exact HB.out | apply below_alloc | apply pw_below_drewN | apply below_drew1) | exact HB.out)) hb); have n1_ := Aside0.mk (hbox); have n2_ := Aside0.mk ((by rw [hg]; exact (below_size (by repeat (first | (with_reducible first | exact HB.out | apply below_alloc | apply pw_below_drewN | apply below_drew1) | exact HB.out))) : w.heap.size ≤ gb421)); have n3_ := Aside0.mk ((by rw [hg]; exact (below_size (by repeat (first | (with_reducible first | exact HB.out | apply below_alloc | apply pw_below_drewN | apply below_drew1) | exact HB.out))) : w.heap.size ≤ gb421)); clear HB; have HB := n0_; have BK421 := n1_; have GW421 := n2_; have GE421 := n3_; clear n0_ n1_ n2_ n3_; clear hb hbox hg; have hcz8_0 : w7.cell? ⟨gb421, 0, none⟩ = some (.int .i64 a0_0) := (blk_cell BK421.out 0).trans rfl; have hcz8_1 : w7.cell? ⟨gb421, 1, none⟩ = some (.int .i64 a0_1) := (blk_cell BK421.out 1).trans rfl; have hcz8_2 : w7.cell? ⟨gb421, 2, none⟩ = some (.int .i64 a0_2) := (blk_cell BK421.out 2).trans rfl; have hfz8_0 := blk_frozen BK421.out 0; have hfz8_1 := blk_frozen BK421.out 1; have hfz8_2 := blk_frozen BK421.out 2) | ((with_reducible refine gate_callee (f := 51) rfl ?_); refine goesL_ (some 5) rfl rfl Try.func51 (by kernel_rfl) rfl #[.int .i64 a0_0] rfl (by (try simp only [List.map_toArray, List.map_cons, List.map_nil]); first | done | rfl | (simp only [List.length_drop, List.length_take]; rfl)) ?_; (with_reducible refine (metrolabref07_in.calls a0_0 true _ A2.out).mono ?_); rintro e w' ⟨rfl, ⟨nd, rfl⟩⟩; refine ⟨_, rfl, ?_⟩) | (go_at_call 51; (with_reducible refine (metrolabref07_in.calls a0_1 true _ A4.out).mono ?_); rintro e w' ⟨rfl, ⟨nd, rfl⟩⟩) | (go_at_call 51; (with_reducible refine (metrolabref07_in.calls a0_2 t424 _ A6.out).mono ?_); rintro e w' ⟨rfl, ⟨nd, rfl⟩⟩))
      go_ret
      exact ⟨by first | rfl | (simp [errW_none, errW_some] <;> rfl) | (simp [*, errW_none, errW_some] <;> rfl), by repeat (first | (with_reducible first | exact HB.out | apply below_alloc | apply pw_below_drewN | apply below_drew1 | refine below_set ?_ GE421.out) | exact HB.out)⟩
    · replace c5 := Bool.eq_false_iff.mpr c5
      subst c5
      have H1 : (some false) = some r := by rw [if_neg (show ¬ (false = true) by decide)] at H; exact H
      clear H
      have H := H1
      clear H1
      obtain rfl := Option.some.inj H
      go_enter Try.func70, Try.ntmps70
      go_wp2_with (first | ((with_reducible refine gate_dst (N := 1) rfl ?_); refine box_event ?hg (N := 1) ?hd (cs := #[.int .i64 a0_0, .int .i64 a0_1, .int .i64 a0_2]) (t := 89) ?hr ?_; (case hd => rfl); (case hg => rfl); (case hr => first | (go_simp; done) | (go_simp; rfl)); intro gb421 hg w9 hbox hb; have n0_ := Aside0.mk (below_step (by repeat (first | (with_reducible first | exact HB.out | apply below_alloc | apply pw_below_drewN | apply below_drew1) | exact HB.out)) hb); have n1_ := Aside0.mk (hbox); have n2_ := Aside0.mk ((by rw [hg]; exact (below_size (by repeat (first | (with_reducible first | exact HB.out | apply below_alloc | apply pw_below_drewN | apply below_drew1) | exact HB.out))) : w.heap.size ≤ gb421)); have n3_ := Aside0.mk ((by rw [hg]; exact (below_size (by repeat (first | (with_reducible first | exact HB.out | apply below_alloc | apply pw_below_drewN | apply below_drew1) | exact HB.out))) : w.heap.size ≤ gb421)); clear HB; have HB := n0_; have BK421 := n1_; have GW421 := n2_; have GE421 := n3_; clear n0_ n1_ n2_ n3_; clear hb hbox hg; have hcz10_0 : w9.cell? ⟨gb421, 0, none⟩ = some (.int .i64 a0_0) := (blk_cell BK421.out 0).trans rfl; have hcz10_1 : w9.cell? ⟨gb421, 1, none⟩ = some (.int .i64 a0_1) := (blk_cell BK421.out 1).trans rfl; have hcz10_2 : w9.cell? ⟨gb421, 2, none⟩ = some (.int .i64 a0_2) := (blk_cell BK421.out 2).trans rfl; have hfz10_0 := blk_frozen BK421.out 0; have hfz10_1 := blk_frozen BK421.out 1; have hfz10_2 := blk_frozen BK421.out 2) | ((with_reducible refine gate_callee (f := 51) rfl ?_); refine goesL_ (some 5) rfl rfl Try.func51 (by kernel_rfl) rfl #[.int .i64 a0_0] rfl (by (try simp only [List.map_toArray, List.map_cons, List.map_nil]); first | done | rfl | (simp only [List.length_drop, List.length_take]; rfl)) ?_; (with_reducible refine (metrolabref07_in.calls a0_0 true _ A2.out).mono ?_); rintro e w' ⟨rfl, ⟨nd, rfl⟩⟩; refine ⟨_, rfl, ?_⟩) | (go_at_call 51; (with_reducible refine (metrolabref07_in.calls a0_1 false _ A4.out).mono ?_); rintro e w' ⟨rfl, ⟨nd, rfl⟩⟩))
      go_ret
      exact ⟨by first | rfl | (simp [errW_none, errW_some] <;> rfl) | (simp [*, errW_none, errW_some] <;> rfl), by repeat (first | (with_reducible first | exact HB.out | apply below_alloc | apply pw_below_drewN | apply below_drew1 | refine below_set ?_ GE421.out) | exact HB.out)⟩
  · replace c3 := Bool.eq_false_iff.mpr c3
    subst c3
    have H1 : (some false) = some r := by rw [if_neg (show ¬ (false = true) by decide)] at H; exact H
    clear H
    have H := H1
    clear H1
    obtain rfl := Option.some.inj H
    go_enter Try.func70, Try.ntmps70
    go_wp2_with (first | ((with_reducible refine gate_dst (N := 1) rfl ?_); refine box_event ?hg (N := 1) ?hd (cs := #[.int .i64 a0_0, .int .i64 a0_1, .int .i64 a0_2]) (t := 89) ?hr ?_; (case hd => rfl); (case hg => rfl); (case hr => first | (go_simp; done) | (go_simp; rfl)); intro gb421 hg w11 hbox hb; have n0_ := Aside0.mk (below_step (by repeat (first | (with_reducible first | exact HB.out | apply below_alloc | apply pw_below_drewN | apply below_drew1) | exact HB.out)) hb); have n1_ := Aside0.mk (hbox); have n2_ := Aside0.mk ((by rw [hg]; exact (below_size (by repeat (first | (with_reducible first | exact HB.out | apply below_alloc | apply pw_below_drewN | apply below_drew1) | exact HB.out))) : w.heap.size ≤ gb421)); have n3_ := Aside0.mk ((by rw [hg]; exact (below_size (by repeat (first | (with_reducible first | exact HB.out | apply below_alloc | apply pw_below_drewN | apply below_drew1) | exact HB.out))) : w.heap.size ≤ gb421)); clear HB; have HB := n0_; have BK421 := n1_; have GW421 := n2_; have GE421 := n3_; clear n0_ n1_ n2_ n3_; clear hb hbox hg; have hcz12_0 : w11.cell? ⟨gb421, 0, none⟩ = some (.int .i64 a0_0) := (blk_cell BK421.out 0).trans rfl; have hcz12_1 : w11.cell? ⟨gb421, 1, none⟩ = some (.int .i64 a0_1) := (blk_cell BK421.out 1).trans rfl; have hcz12_2 : w11.cell? ⟨gb421, 2, none⟩ = some (.int .i64 a0_2) := (blk_cell BK421.out 2).trans rfl; have hfz12_0 := blk_frozen BK421.out 0; have hfz12_1 := blk_frozen BK421.out 1; have hfz12_2 := blk_frozen BK421.out 2) | ((with_reducible refine gate_callee (f := 51) rfl ?_); refine goesL_ (some 5) rfl rfl Try.func51 (by kernel_rfl) rfl #[.int .i64 a0_0] rfl (by (try simp only [List.map_toArray, List.map_cons, List.map_nil]); first | done | rfl | (simp only [List.length_drop, List.length_take]; rfl)) ?_; (with_reducible refine (metrolabref07_in.calls a0_0 false _ A2.out).mono ?_); rintro e w' ⟨rfl, ⟨nd, rfl⟩⟩; refine ⟨_, rfl, ?_⟩))
    go_ret
    exact ⟨by first | rfl | (simp [errW_none, errW_some] <;> rfl) | (simp [*, errW_none, errW_some] <;> rfl), by repeat (first | (with_reducible first | exact HB.out | apply below_alloc | apply pw_below_drewN | apply below_drew1 | refine below_set ?_ GE421.out) | exact HB.out)⟩

/-! ### metrolabref07_CheckSpots: function 55 -/
def metrolabref07_CheckSpots.l0 : Nat → List (S89) → Int → Option (Int)
  | 0, _, _ => none
  | k + 1, x0, x3 => if x3 < (x0.length : Int) then (if 0 ≤ x3 then ((metrolabref07_RightSpot.f ((rd_T89 x0 x3).f0) ((rd_T89 x0 x3).f1) ((rd_T89 x0 x3).f2)).bind fun t426 => (if t426 = true then (metrolabref07_CheckSpots.l0 k x0 (wrap64 (x3 + 1))) else (some 2))) else (none)) else (some 0)
def metrolabref07_CheckSpots.f (k : Nat) (l0 : List (S89)) : Option (Int) := if (l0.length : Int) > 64 then (some 5) else (metrolabref07_CheckSpots.l0 k l0 0)
theorem metrolabref07_CheckSpots.mono_l : ∀ k, (∀ y0 y1, LeO (metrolabref07_CheckSpots.l0 k y0 y1) (metrolabref07_CheckSpots.l0 (k + 1) y0 y1))
  | 0 => fun _ _ r h => by simp [metrolabref07_CheckSpots.l0] at h
  | k + 1 => by
    have ih0 := metrolabref07_CheckSpots.mono_l k
    · intro y0 y1
      unfold metrolabref07_CheckSpots.l0
      repeat' first
      | (with_reducible exact ih0 _ _)
      | (with_reducible exact LeO.refl _)
      | (with_reducible exact LeO.none _)
      | (with_reducible refine LeO.ite ?_ ?_)
      | (with_reducible refine LeO.bind ?_ (fun _ => ?_))
      | exact ih0 _ _
      | exact LeO.none _
      | refine LeO.ite ?_ ?_
      | refine LeO.bind ?_ (fun _ => ?_)
theorem metrolabref07_CheckSpots.mono : ∀ a0 k, LeO (metrolabref07_CheckSpots.f k a0) (metrolabref07_CheckSpots.f (k + 1) a0) := by
  intro a0 k
  have ih0 := metrolabref07_CheckSpots.mono_l k
  unfold metrolabref07_CheckSpots.f
  repeat' first
      | (with_reducible exact ih0 _ _)
      | (with_reducible exact LeO.refl _)
      | (with_reducible exact LeO.none _)
      | (with_reducible refine LeO.ite ?_ ?_)
      | (with_reducible refine LeO.bind ?_ (fun _ => ?_))
      | exact ih0 _ _
      | exact LeO.none _
      | refine LeO.ite ?_ ?_
      | refine LeO.bind ?_ (fun _ => ?_)
set_option maxHeartbeats 8000000 in
set_option maxRecDepth 100000 in
theorem metrolabref07_CheckSpots.calls (k : Nat) (A0 : Option Addr) (c0 : Nat) (l0 : List (S89)) (r : Int) (w : World) (hr0 : Kd.C k89 w A0 l0.length l0) (hc0 : l0.length ≤ c0) (h : metrolabref07_CheckSpots.f k l0 = some r) :
    Calls Try.prog 55 #[.slice A0 l0.length c0] w fun e w' => e = .returned (.int .i64 r) ∧ Below w.heap.size w w' := by
  have hu89 := Try.underlying89
  have HR0 := Aside0.mk hr0
  have HC0 := Aside0.mk hc0
  clear hr0 hc0
  have HB := Aside0.mk (Below.refl w.heap.size w)
  have H : (if (l0.length : Int) > 64 then (some 5) else (metrolabref07_CheckSpots.l0 k l0 0)) = some r := h
  clear h
  by_cases c2 : (l0.length : Int) > 64
  · rw [if_pos c2] at H
    have c2b0 : decide (64 < (l0.length : Int)) = true := decide_eq_true c2
    have c2b1 : decide (64 < l0.length) = true := decide_eq_true (by omega)
    clear c2
    obtain rfl := Option.some.inj H
    go_enter Try.func55, Try.ntmps55
    go_wp2
    go_ret
    exact ⟨by first | rfl | (simp [errW_none, errW_some] <;> rfl) | (simp [*, errW_none, errW_some] <;> rfl), by repeat (first | (with_reducible first | exact HB.out | apply below_alloc | apply pw_below_drewN | apply below_drew1) | exact HB.out)⟩
  · rw [if_neg c2] at H
    have c2b0 : decide (64 < (l0.length : Int)) = false := decide_eq_false c2
    have c2b1 : decide (64 < l0.length) = false := decide_eq_false (by omega)
    clear c2
    have H' := Aside0.mk H
    clear H
    go_enter Try.func55, Try.ntmps55
    go_wp2
    go_loopg [3] k (fun kq v3 w' => ∃ (x3_1 : Int), v3 = .int .i64 x3_1 ∧ Aside0 (metrolabref07_CheckSpots.l0 kq l0 x3_1 = some r) ∧ Aside0 (kq ≤ k) ∧ Aside0 (Below w.heap.size w w'))
    case atStart => exact ⟨(0), (by first | rfl | (simp; done) | (simp [*]; done)), H', ⟨Nat.le_refl _⟩, ⟨by repeat (first | (with_reducible first | exact HB.out | apply below_alloc | apply pw_below_drewN | apply below_drew1) | exact HB.out)⟩⟩
    case round =>
      clear H'
      try clear c2
      try clear c2b0
      try clear c2b1
      try clear p2
      obtain ⟨x3_1, rfl, HA, HK1, HB⟩ := hrel
      cases gk with
      | zero => exact absurd HA.out (by simp [metrolabref07_CheckSpots.l0])
      | succ k1 =>
        have H := HA.out
        clear HA
        simp only [metrolabref07_CheckSpots.l0] at H
        by_cases c3 : x3_1 < (l0.length : Int)
        · rw [if_pos c3] at H
          have c3b0 : decide (x3_1 < (l0.length : Int)) = true := decide_eq_true c3
          clear c3
          by_cases c4 : 0 ≤ x3_1
          · rw [if_pos c4] at H
            have c4b0 : decide (0 ≤ x3_1) = true := decide_eq_true c4
            clear c4
            replace H := Option.bind_eq_some_iff.mp H
            obtain ⟨t426, A50, H⟩ := H
            replace H : (if t426 = true then (metrolabref07_CheckSpots.l0 k1 l0 (wrap64 (x3_1 + 1))) else (some 2)) = some r := H
            have A5 := Aside0.mk A50
            clear A50
            by_cases c6 : t426 = true
            · subst c6
              have H1 : (metrolabref07_CheckSpots.l0 k1 l0 (wrap64 (x3_1 + 1))) = some r := by rw [if_pos rfl] at H; exact H
              clear H
              have H := H1
              clear H1
              have H' := Aside0.mk H
              clear H
              have p425 : 0 ≤ (x3_1 : Int) := of_decide_eq_true (by first | (with_reducible assumption) | assumption)
              have q425 : x3_1 < (l0.length : Int) := of_decide_eq_true (by first | (with_reducible assumption) | assumption)
              obtain ⟨ad425, e425, hx425_0, hx425_1, hx425_2⟩ := at_T89 HR0.out x3_1 p425 q425
              cases e425
              replace hx425_0 := (HB.out.cell (World.block_lt_of_cell? w _ hx425_0)).trans hx425_0
              replace hx425_1 := (HB.out.cell (World.block_lt_of_cell? w _ hx425_1)).trans hx425_1
              replace hx425_2 := (HB.out.cell (World.block_lt_of_cell? w _ hx425_2)).trans hx425_2
              replace p425 := eq_true p425
              replace q425 := eq_true q425
              go_wp2_with (first | ((with_reducible refine gate_callee (f := 70) rfl ?_); refine goesL_ (some 17) rfl rfl Try.func70 (by kernel_rfl) rfl #[.agg #[.int .i64 ((rd_T89 l0 x3_1).f0), .int .i64 ((rd_T89 l0 x3_1).f1), .int .i64 ((rd_T89 l0 x3_1).f2)]] rfl (by (try simp only [List.map_toArray, List.map_cons, List.map_nil]); first | done | rfl | (simp only [List.length_drop, List.length_take]; rfl)) ?_; (with_reducible refine (metrolabref07_RightSpot.calls ((rd_T89 l0 x3_1).f0) ((rd_T89 l0 x3_1).f1) ((rd_T89 l0 x3_1).f2) true _ A5.out).mono ?_); rintro e w7 ⟨rfl, hb⟩; refine ⟨_, rfl, ?_⟩; have n0_ := Aside0.mk (below_step (by repeat (first | (with_reducible first | exact HB.out | apply below_alloc | apply pw_below_drewN | apply below_drew1) | exact HB.out)) hb); clear HB; have HB := n0_; clear n0_; (try clear hb); (try clear hb2); (try clear hk); (try clear hi)))
              go_roundg k1
              case measure => have := HK1.out; omega
              case rel => exact ⟨(wrap64 (x3_1 + 1)), (by first | rfl | (simp; done) | (simp [*]; done)), H', ⟨by have := HK1.out; omega⟩, ⟨by repeat (first | (with_reducible first | exact HB.out | apply below_alloc | apply pw_below_drewN | apply below_drew1) | exact HB.out)⟩⟩
            · replace c6 := Bool.eq_false_iff.mpr c6
              subst c6
              have H1 : (some 2) = some r := by rw [if_neg (show ¬ (false = true) by decide)] at H; exact H
              clear H
              have H := H1
              clear H1
              obtain rfl := Option.some.inj H
              have p425 : 0 ≤ (x3_1 : Int) := of_decide_eq_true (by first | (with_reducible assumption) | assumption)
              have q425 : x3_1 < (l0.length : Int) := of_decide_eq_true (by first | (with_reducible assumption) | assumption)
              obtain ⟨ad425, e425, hx425_0, hx425_1, hx425_2⟩ := at_T89 HR0.out x3_1 p425 q425
              cases e425
              replace hx425_0 := (HB.out.cell (World.block_lt_of_cell? w _ hx425_0)).trans hx425_0
              replace hx425_1 := (HB.out.cell (World.block_lt_of_cell? w _ hx425_1)).trans hx425_1
              replace hx425_2 := (HB.out.cell (World.block_lt_of_cell? w _ hx425_2)).trans hx425_2
              replace p425 := eq_true p425
              replace q425 := eq_true q425
              go_wp2_with (first | ((with_reducible refine gate_callee (f := 70) rfl ?_); refine goesL_ (some 17) rfl rfl Try.func70 (by kernel_rfl) rfl #[.agg #[.int .i64 ((rd_T89 l0 x3_1).f0), .int .i64 ((rd_T89 l0 x3_1).f1), .int .i64 ((rd_T89 l0 x3_1).f2)]] rfl (by (try simp only [List.map_toArray, List.map_cons, List.map_nil]); first | done | rfl | (simp only [List.length_drop, List.length_take]; rfl)) ?_; (with_reducible refine (metrolabref07_RightSpot.calls ((rd_T89 l0 x3_1).f0) ((rd_T89 l0 x3_1).f1) ((rd_T89 l0 x3_1).f2) false _ A5.out).mono ?_); rintro e w8 ⟨rfl, hb⟩; refine ⟨_, rfl, ?_⟩; have n0_ := Aside0.mk (below_step (by repeat (first | (with_reducible first | exact HB.out | apply below_alloc | apply pw_below_drewN | apply below_drew1) | exact HB.out)) hb); clear HB; have HB := n0_; clear n0_; (try clear hb); (try clear hb2); (try clear hk); (try clear hi)))
              go_ret
              exact ⟨by first | rfl | (simp [errW_none, errW_some] <;> rfl) | (simp [*, errW_none, errW_some] <;> rfl), by repeat (first | (with_reducible first | exact HB.out | apply below_alloc | apply pw_below_drewN | apply below_drew1) | exact HB.out)⟩
          · rw [if_neg c4] at H
            exact absurd H (by simp)
        · rw [if_neg c3] at H
          have c3b0 : decide (x3_1 < (l0.length : Int)) = false := decide_eq_false c3
          clear c3
          obtain rfl := Option.some.inj H
          go_wp2
          go_ret
          exact ⟨by first | rfl | (simp [errW_none, errW_some] <;> rfl) | (simp [*, errW_none, errW_some] <;> rfl), by repeat (first | (with_reducible first | exact HB.out | apply below_alloc | apply pw_below_drewN | apply below_drew1) | exact HB.out)⟩

/-! ### metrolabref18_Axis: function 56 -/
def metrolabref18_Axis.f (a0 : Int) : Option (Int) := if a0 < 0 then (some 1) else (if a0 ≥ 3 then (some 1) else (some 0))
set_option maxHeartbeats 8000000 in
set_option maxRecDepth 100000 in
theorem metrolabref18_Axis.calls (a0 : Int) (r : Int) (w : World) (h : metrolabref18_Axis.f a0 = some r) :
    Calls Try.prog 56 #[.int .i64 a0] w fun e w' => e = .returned (.int .i64 r) ∧ Drawn0 w w' := by
  have H : (if a0 < 0 then (some 1) else (if a0 ≥ 3 then (some 1) else (some 0))) = some r := h
  clear h
  by_cases c2 : a0 < 0
  · rw [if_pos c2] at H
    have c2b0 : decide (a0 < 0) = true := decide_eq_true c2
    clear c2
    obtain rfl := Option.some.inj H
    go_enter Try.func56, Try.ntmps56
    go_wp2
    go_ret
    exact ⟨by first | rfl | (simp; done) | (simp [*]; done), by repeat (first | exact Drawn0.refl _ | apply Drawn0.step)⟩
  · rw [if_neg c2] at H
    have c2b0 : decide (a0 < 0) = false := decide_eq_false c2
    clear c2
    by_cases c3 : a0 ≥ 3
    · rw [if_pos c3] at H
      have c3b0 : decide (3 ≤ a0) = true := decide_eq_true c3
      clear c3
      obtain rfl := Option.some.inj H
      go_enter Try.func56, Try.ntmps56
      go_wp2
      go_ret
      exact ⟨by first | rfl | (simp; done) | (simp [*]; done), by repeat (first | exact Drawn0.refl _ | apply Drawn0.step)⟩
    · rw [if_neg c3] at H
      have c3b0 : decide (3 ≤ a0) = false := decide_eq_false c3
      clear c3
      obtain rfl := Option.some.inj H
      go_enter Try.func56, Try.ntmps56
      go_wp2
      go_ret
      exact ⟨by first | rfl | (simp; done) | (simp [*]; done), by repeat (first | exact Drawn0.refl _ | apply Drawn0.step)⟩

-- NOT PRINTED: function 57 (metrolabref18_Coordinates)

end Go.Proofs.Ytkpojbglckmddaa.X

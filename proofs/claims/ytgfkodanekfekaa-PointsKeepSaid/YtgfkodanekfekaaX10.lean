-- Made by wip/xprint.py for this claim: the kit's printer over the translation, with hand-proved functions in their places. Lean checks it.
import Derived.Test.YtgfkodanekfekaaX0
import Derived.Test.YtgfkodanekfekaaX3
namespace Go.Proofs.Ytgfkodanekfekaa.X
open Go.RowKit Go.Proofs.YtgfkodanekfekaaW.PrintWords Go.Proofs.YtgfkodanekfekaaW.PrintLast Go.Proofs.YtgfkodanekfekaaW.PrintMore
attribute [local go_sem] max2_int min2_int max_two min_two max_three min_three max_four min_four   -- for this text's walks alone
set_option linter.unusedVariables false
set_option linter.unusedSimpArgs false

-- NOT PRINTED: function 93 (slices_IndexFunc_int_int)

-- NOT PRINTED: function 78 (slices_ContainsFunc_int_int)

/-! ### points_triple_ranged: function 59, proved by hand -/
-- USES points_of
-- USES points_each
def badC (n : Int) : Bool := decide (n < -100000) || decide (100000 < n)
set_option maxHeartbeats 8000000 in
set_option maxRecDepth 100000 in
theorem ranged1_calls (n : Int) (w : World) : Calls Try.prog 79 #[.int .i64 n] w fun e w' => e = .returned (.bool (badC n)) ∧ Below w.heap.size w w' := by
  unfold badC
  by_cases h : n < -100000
  · have d0 : decide (n < -100000) = true := decide_eq_true h
    rw [d0]
    go_enter Try.func79, Try.ntmps79
    go_wp2
    go_ret
    exact ⟨rfl, Below.refl _ _⟩
  · have d0 : decide (n < -100000) = false := decide_eq_false h
    rw [d0]
    go_enter Try.func79, Try.ntmps79
    go_wp2
    go_ret
    exact ⟨rfl, Below.refl _ _⟩
def idx3 (x y z : Int) : Int := if badC x = true then 0 else if badC y = true then 1 else if badC z = true then 2 else -1
set_option maxHeartbeats 8000000 in
set_option maxRecDepth 100000 in
theorem IndexFuncI_calls (x y z : Int) (g : Nat) (w : World) (hb : w.heap[g]? = some (.cells #[.int .i64 x, .int .i64 y, .int .i64 z] 86 (0, 0))) :
    Calls Try.prog 93 #[.slice (some ⟨g, 0, none⟩) 3 3, .func (.func 79) #[] #[]] w fun e w' => e = .returned (.int .i64 (idx3 x y z)) ∧ Below w.heap.size w w' := by
  have HB := Aside0.mk hb
  clear hb
  go_enter Try.func93, Try.ntmps93
  go_wp2
  go_loopw [8] (fun v8 wr => ∃ i : Nat, i ≤ 3 ∧ v8 = .int .i64 i ∧ Aside0 ((0 < i → badC x = false) ∧ (1 < i → badC y = false) ∧ (2 < i → badC z = false)) ∧ Aside0 (Below w.heap.size w wr)) (fun v8 _ => 3 - (intOf v8).toNat)
  case atStart => exact ⟨0, Nat.zero_le _, rfl, ⟨by omega⟩, ⟨Below.refl _ _⟩⟩
  case round =>
    obtain ⟨i, hi, rfl, HA, HR⟩ := hrel
    have hh := (HR.out.block g (blk_lt HB.out)).trans HB.out
    have c0 : wr.cell? ⟨g, 0, none⟩ = some (.int .i64 x) := (blk_cell hh 0).trans rfl
    have c1 : wr.cell? ⟨g, 1, none⟩ = some (.int .i64 y) := (blk_cell hh 1).trans rfl
    have c2 : wr.cell? ⟨g, 2, none⟩ = some (.int .i64 z) := (blk_cell hh 2).trans rfl
    clear hh
    obtain rfl | rfl | rfl | rfl : i = 0 ∨ i = 1 ∨ i = 2 ∨ i = 3 := by omega
    · cases hv : badC x
      · have HV := Aside0.mk hv
        clear hv
        go_wp2_with (go_at_call 79; (with_reducible refine (ranged1_calls x _).mono ?_); rw [HV.out]; rintro e w2 ⟨rfl, hb2⟩)
        go_roundw
        case rel => exact ⟨1, by omega, by go_num, ⟨by refine ⟨?_, ?_, ?_⟩ <;> first | trivial | (intro h; first | trivial | exact HV.out | exact HA.out.1 (by omega) | exact HA.out.2.1 (by omega) | omega)⟩, ⟨HR.out.trans (hb2.mono HR.out.size)⟩⟩
        case measure => simp [intOf]
      · have HV := Aside0.mk hv
        clear hv
        go_wp2_with (go_at_call 79; (with_reducible refine (ranged1_calls x _).mono ?_); rw [HV.out]; rintro e w2 ⟨rfl, hb2⟩)
        go_ret
        exact ⟨by rw [show idx3 x y z = 0 from by unfold idx3; rw [HV.out]; rfl]; rfl, HR.out.trans (hb2.mono HR.out.size)⟩
    · cases hv : badC y
      · have HV := Aside0.mk hv
        clear hv
        go_wp2_with (go_at_call 79; (with_reducible refine (ranged1_calls y _).mono ?_); rw [HV.out]; rintro e w2 ⟨rfl, hb2⟩)
        go_roundw
        case rel => exact ⟨2, by omega, by go_num, ⟨by refine ⟨?_, ?_, ?_⟩ <;> first | trivial | (intro h; first | trivial | exact HV.out | exact HA.out.1 (by omega) | exact HA.out.2.1 (by omega) | omega)⟩, ⟨HR.out.trans (hb2.mono HR.out.size)⟩⟩
        case measure => simp [intOf]
      · have HV := Aside0.mk hv
        clear hv
        go_wp2_with (go_at_call 79; (with_reducible refine (ranged1_calls y _).mono ?_); rw [HV.out]; rintro e w2 ⟨rfl, hb2⟩)
        go_ret
        exact ⟨by rw [show idx3 x y z = 1 from by unfold idx3; rw [HA.out.1 (by omega), HV.out]; rfl]; rfl, HR.out.trans (hb2.mono HR.out.size)⟩
    · cases hv : badC z
      · have HV := Aside0.mk hv
        clear hv
        go_wp2_with (go_at_call 79; (with_reducible refine (ranged1_calls z _).mono ?_); rw [HV.out]; rintro e w2 ⟨rfl, hb2⟩)
        go_roundw
        case rel => exact ⟨3, by omega, by go_num, ⟨by refine ⟨?_, ?_, ?_⟩ <;> first | trivial | (intro h; first | trivial | exact HV.out | exact HA.out.1 (by omega) | exact HA.out.2.1 (by omega) | omega)⟩, ⟨HR.out.trans (hb2.mono HR.out.size)⟩⟩
        case measure => simp [intOf]
      · have HV := Aside0.mk hv
        clear hv
        go_wp2_with (go_at_call 79; (with_reducible refine (ranged1_calls z _).mono ?_); rw [HV.out]; rintro e w2 ⟨rfl, hb2⟩)
        go_ret
        exact ⟨by rw [show idx3 x y z = 2 from by unfold idx3; rw [HA.out.1 (by omega), HA.out.2.1 (by omega), HV.out]; rfl]; rfl, HR.out.trans (hb2.mono HR.out.size)⟩
    · go_wp2
      go_ret
      exact ⟨by unfold idx3; rw [if_neg (by rw [HA.out.1 (by omega)]; decide), if_neg (by rw [HA.out.2.1 (by omega)]; decide), if_neg (by rw [HA.out.2.2 (by omega)]; decide)]; rfl, HR.out⟩
theorem idx3_any (x y z : Int) : decide (0 ≤ idx3 x y z) = (badC x || (badC y || badC z)) := by
  unfold idx3
  cases badC x <;> cases badC y <;> cases badC z <;> rfl
set_option maxHeartbeats 8000000 in
set_option maxRecDepth 100000 in
theorem ContainsFuncI_calls (x y z : Int) (g : Nat) (w : World) (hb : w.heap[g]? = some (.cells #[.int .i64 x, .int .i64 y, .int .i64 z] 86 (0, 0))) :
    Calls Try.prog 78 #[.slice (some ⟨g, 0, none⟩) 3 3, .func (.func 79) #[] #[]] w fun e w' => e = .returned (.bool (badC x || (badC y || badC z))) ∧ Below w.heap.size w w' := by
  have HB := Aside0.mk hb
  have HI := Aside0.mk (idx3_any x y z)
  clear hb
  go_enter Try.func78, Try.ntmps78
  go_wp2_with (go_at_call 93; (with_reducible refine (IndexFuncI_calls x y z g _ HB.out).mono ?_); rintro e w2 ⟨rfl, hb2⟩)
  go_ret
  refine ⟨?_, hb2⟩
  rw [← HI.out]
  rfl
def rangedV (t : Int × Int × Int) : Bool := !(badC t.1 || (badC t.2.1 || badC t.2.2))
set_option maxHeartbeats 8000000 in
set_option maxRecDepth 100000 in
theorem ranged_calls (x y z : Int) (g : Nat) (w : World) (hb : w.heap[g]? = some (.cells #[.int .i64 x, .int .i64 y, .int .i64 z] 86 (0, 0))) :
    Calls Try.prog 59 #[.pointer (some ⟨g, 0, none⟩)] w fun e w' => e = .returned (.bool (rangedV (x, y, z))) ∧ Below w.heap.size w w' := by
  have HB := Aside0.mk hb
  clear hb
  go_enter Try.func59, Try.ntmps59
  go_wp2_with (go_at_call 78; (with_reducible refine (ContainsFuncI_calls x y z g _ HB.out).mono ?_); rintro e w2 ⟨rfl, hb2⟩)
  go_ret
  refine ⟨?_, hb2⟩
  unfold rangedV
  simp

/-! ### points_Shift: function 25, proved by hand -/
-- USES points_each
-- USES points_triple_ranged
-- USES vector_CheckSpots
-- USES points_Thin
def shiftV (a b c : Int) (t : Int × Int × Int) : Int × Int × Int := (wrap64 (t.1 + a), wrap64 (t.2.1 + b), wrap64 (t.2.2 + c))
def shiftS (a b c : Int) (s : Bool) (t : Int × Int × Int) : Bool × (Int × Int × Int) := (s || !rangedV (shiftV a b c t), shiftV a b c t)
set_option maxHeartbeats 8000000 in
set_option maxRecDepth 100000 in
theorem Shift1_calls (x y z a b c : Int) (s : Bool) (g gd gl : Nat) (w : World) (hg : w.heap[g]? = some (.cells #[.int .i64 x, .int .i64 y, .int .i64 z] 86 (0, 0))) (hd : w.heap[gd]? = some (.cells #[.int .i64 a, .int .i64 b, .int .i64 c] 86 (0, 0))) (hl : w.heap[gl]? = some (.cells #[.bool s] 4 (0, 0))) (hgl : gl ≠ g) :
    Calls Try.prog 60 #[.pointer (some ⟨g, 0, none⟩), .pointer (some ⟨gd, 0, none⟩), .pointer (some ⟨gl, 0, none⟩)] w fun e w' => e = .returned (.tuple #[]) ∧ w'.heap[g]? = some (.cells (tripleCells (shiftS a b c s (x, y, z)).2) 86 (0, 0)) ∧ w'.heap[gl]? = some (.cells #[.bool (shiftS a b c s (x, y, z)).1] 4 (0, 0)) ∧ OnlyBut w w' (fun k => k ≠ g ∧ k ≠ gl) := by
  have HG := Aside0.mk hg
  have HL := Aside0.mk hl
  have d0 : w.cell? ⟨gd, 0, none⟩ = some (.int .i64 a) := (blk_cell hd 0).trans rfl
  have d1 : w.cell? ⟨gd, 1, none⟩ = some (.int .i64 b) := (blk_cell hd 1).trans rfl
  have d2 : w.cell? ⟨gd, 2, none⟩ = some (.int .i64 c) := (blk_cell hd 2).trans rfl
  clear hg hd hl
  go_enter Try.func60, Try.ntmps60
  go_wp2
  go_loopw [7] (fun v7 wi => ∃ j : Nat, j ≤ 3 ∧ v7 = .int .i64 j ∧ Aside0 (wi.heap[g]? = some (.cells #[.int .i64 (if 0 < j then wrap64 (x + a) else x), .int .i64 (if 1 < j then wrap64 (y + b) else y), .int .i64 (if 2 < j then wrap64 (z + c) else z)] 86 (0, 0))) ∧ Aside0 (OnlyBut w wi (fun k => k ≠ g))) (fun v7 _ => 3 - (intOf v7).toNat)
  case atStart => exact ⟨0, by omega, rfl, HG, ⟨only_refl _ _⟩⟩
  case round =>
    clear d0 d1 d2
    obtain ⟨j, hj, rfl, N6, HI⟩ := hrel
    obtain rfl | rfl | rfl | rfl : j = 0 ∨ j = 1 ∨ j = 2 ∨ j = 3 := by omega
    · have n6 : wr.heap[g]? = some (.cells #[.int .i64 (x), .int .i64 (y), .int .i64 (z)] 86 (0, 0)) := N6.out
      have c6 : wr.cell? ⟨g, 0, none⟩ = some (.int .i64 (x)) := (blk_cell n6 0).trans rfl
      have e6 := blk_frozen n6 0
      clear N6
      have hix : ∀ W : World, _ := fun W => index_t0 a b c W
      go_wp2
      go_region
      all_goals
        go_wp2
        go_roundw
        case rel => exact ⟨1, by omega, by go_num, ⟨blk_drew (blk_put (cs := #[.int .i64 (x), .int .i64 (y), .int .i64 (z)]) n6 0 _ rfl)⟩, ⟨only_drew (only_set HI.out (fun k _ hk => hk) _)⟩⟩
        case measure => simp [intOf]
    · have n6 : wr.heap[g]? = some (.cells #[.int .i64 (wrap64 (x + a)), .int .i64 (y), .int .i64 (z)] 86 (0, 0)) := N6.out
      have c6 : wr.cell? ⟨g, 1, none⟩ = some (.int .i64 (y)) := (blk_cell n6 1).trans rfl
      have e6 := blk_frozen n6 1
      clear N6
      have hix : ∀ W : World, _ := fun W => index_t1 a b c W
      go_wp2
      go_region
      all_goals
        go_wp2
        go_roundw
        case rel => exact ⟨2, by omega, by go_num, ⟨blk_drew (blk_put (cs := #[.int .i64 (wrap64 (x + a)), .int .i64 (y), .int .i64 (z)]) n6 1 _ rfl)⟩, ⟨only_drew (only_set HI.out (fun k _ hk => hk) _)⟩⟩
        case measure => simp [intOf]
    · have n6 : wr.heap[g]? = some (.cells #[.int .i64 (wrap64 (x + a)), .int .i64 (wrap64 (y + b)), .int .i64 (z)] 86 (0, 0)) := N6.out
      have c6 : wr.cell? ⟨g, 2, none⟩ = some (.int .i64 (z)) := (blk_cell n6 2).trans rfl
      have e6 := blk_frozen n6 2
      clear N6
      have hix : ∀ W : World, _ := fun W => index_t2 a b c W
      go_wp2
      go_region
      all_goals
        go_wp2
        go_roundw
        case rel => exact ⟨3, by omega, by go_num, ⟨blk_drew (blk_put (cs := #[.int .i64 (wrap64 (x + a)), .int .i64 (wrap64 (y + b)), .int .i64 (z)]) n6 2 _ rfl)⟩, ⟨only_drew (only_set HI.out (fun k _ hk => hk) _)⟩⟩
        case measure => simp [intOf]
    · have n6 : wr.heap[g]? = some (.cells #[.int .i64 (wrap64 (x + a)), .int .i64 (wrap64 (y + b)), .int .i64 (wrap64 (z + c))] 86 (0, 0)) := N6.out
      have N7 := Aside0.mk n6
      have L7 := Aside0.mk ((HI.out.2.2.2.2 gl (blk_lt HL.out) hgl).trans HL.out)
      have cl : wr.cell? ⟨gl, 0, none⟩ = some (.bool s) := (blk_cell L7.out 0).trans rfl
      have fl := blk_frozen L7.out 0
      clear N6 n6
      cases s
      · obtain ⟨v, hv⟩ : ∃ v, rangedV (wrap64 (x + a), wrap64 (y + b), wrap64 (z + c)) = v := ⟨_, rfl⟩
        have HV := Aside0.mk hv
        clear hv
        go_wp2_with (go_at_call 59; (with_reducible refine (ranged_calls (wrap64 (x + a)) (wrap64 (y + b)) (wrap64 (z + c)) g _ N7.out).mono ?_); rw [HV.out]; rintro e w2 ⟨rfl, hb2⟩; have cl2 : w2.cell? ⟨gl, 0, none⟩ = some (.bool false) := (blk_cell ((hb2.block gl (blk_lt L7.out)).trans L7.out) 0).trans rfl; have fl2 := blk_frozen ((hb2.block gl (blk_lt L7.out)).trans L7.out) 0)
        go_end0
        refine ⟨rfl, blk_far ((hb2.block g (blk_lt N7.out)).trans N7.out) (Ne.symm hgl) _, ?_, only_set (only_then (only_mono HI.out (fun k hk => hk.1)) (hb2.mono HI.out.2.2.2.1)) (fun k _ hk => hk.2) _⟩
        have h9 := blk_put (cs := #[.bool false]) ((hb2.block gl (blk_lt L7.out)).trans L7.out) 0 (.bool (!v)) rfl
        unfold shiftS shiftV
        simp only [HV.out, Bool.false_or]
        exact h9
      · go_wp2
        go_end0
        refine ⟨rfl, blk_far N7.out (Ne.symm hgl) _, ?_, only_set (only_mono HI.out (fun k hk => hk.1)) (fun k _ hk => hk.2) _⟩
        unfold shiftS
        rw [Bool.true_or]
        exact blk_put (cs := #[.bool true]) L7.out 0 (.bool true) rfl
def points_Shift.f (l : List S30) (a b c : Int) : Option (List S30 × Int) := (vector_CheckSpots.f l).bind fun e => if e = 0 then (if rangedV (a, b, c) = true then (if (eachF (shiftS a b c) false l).1 = true then some ([], 11) else some ((eachF (shiftS a b c) false l).2, 0)) else some ([], 2)) else some ([], e)
theorem shift_world (w w1 : World) (a b c : Int) (hb1 : Below (w.alloc (.cells #[.int .i64 a, .int .i64 b, .int .i64 c] 30)).heap.size (w.alloc (.cells #[.int .i64 a, .int .i64 b, .int .i64 c] 30)) w1) : Below w.heap.size w w1 ∧ w1.cell? ⟨w.heap.size, 0, none⟩ = some (.int .i64 a) ∧ w1.cell? ⟨w.heap.size, 1, none⟩ = some (.int .i64 b) ∧ w1.cell? ⟨w.heap.size, 2, none⟩ = some (.int .i64 c) := by
  have h := (hb1.block w.heap.size (by rw [World.size_alloc]; omega)).trans (heap_alloc_new w _)
  exact ⟨((Below.refl _ w).alloc (Nat.le_refl _) _).trans (hb1.mono (by rw [World.size_alloc]; omega)), (blk_cell h 0).trans rfl, (blk_cell h 1).trans rfl, (blk_cell h 2).trans rfl⟩
theorem shift_mid (w w1 w2 w4 : World) (a b c : Int) (hB1 : Below w.heap.size w w1) (hb2 : Below w1.heap.size w1 w2) (hb4 : Below (w2.alloc (.cells #[.int .i64 a, .int .i64 b, .int .i64 c] 86)).heap.size (w2.alloc (.cells #[.int .i64 a, .int .i64 b, .int .i64 c] 86)) w4) :
    Below w.heap.size w (w4.alloc (.cells #[.bool false] 4)) ∧ (w4.alloc (.cells #[.bool false] 4)).heap[w2.heap.size]? = some (.cells #[.int .i64 a, .int .i64 b, .int .i64 c] 86 (0, 0)) ∧ (w4.alloc (.cells #[.bool false] 4)).heap[w4.heap.size]? = some (.cells #[.bool false] 4 (0, 0)) ∧ w4.heap.size < (w4.alloc (.cells #[.bool false] 4)).heap.size ∧ w.heap.size ≤ w4.heap.size ∧ w2.heap.size < w4.heap.size := by
  have s := hb4.size
  rw [World.size_alloc] at s
  have B2 := hB1.trans (hb2.mono hB1.size)
  have B3 := B2.alloc B2.size (.cells #[.int .i64 a, .int .i64 b, .int .i64 c] 86)
  have B4 := B3.trans (hb4.mono B3.size)
  exact ⟨B4.alloc B4.size _, blk_alloc ((hb4.block _ (by rw [World.size_alloc]; omega)).trans (heap_alloc_new w2 _)) _, heap_alloc_new w4 _, by rw [World.size_alloc]; omega, B4.size, by omega⟩
set_option maxHeartbeats 8000000 in
set_option maxRecDepth 100000 in
theorem points_Shift.calls (A0 : Option Addr) (c0 : Nat) (l0 : List S30) (a1_0 a1_1 a1_2 : Int) (r1 : List S30) (r2 : Int) (w : World) (hr0 : Kd.C k30 w A0 l0.length l0) (hc0 : l0.length ≤ c0) (h : points_Shift.f l0 a1_0 a1_1 a1_2 = some (r1, r2)) :
    Calls Try.prog 25 #[.slice A0 l0.length c0, .agg #[.int .i64 a1_0, .int .i64 a1_1, .int .i64 a1_2]] w fun e w' => ∃ v0_ : Value, e = .returned (.tuple #[v0_, .int .i64 r2]) ∧ Kd.R k30 30 w' w.heap.size (fun _ => True) v0_ r1 ∧ Below w.heap.size w w' := by
  unfold points_Shift.f at h
  obtain ⟨e, he, h⟩ := Option.bind_eq_some_iff.mp h
  have HR := Aside0.mk hr0
  have HE := Aside0.mk he
  have HB0 := Aside0.mk ((Below.refl w.heap.size w).alloc (Nat.le_refl _) (.cells #[.int .i64 a1_0, .int .i64 a1_1, .int .i64 a1_2] 30))
  clear hr0 he
  by_cases h0 : e = 0
  case neg =>
    rw [if_neg h0] at h
    obtain ⟨rfl, rfl⟩ := Prod.mk.inj (Option.some.inj h)
    clear h
    have hne : (e != 0) = true := bne_iff_ne.mpr h0
    go_enter Try.func25, Try.ntmps25
    go_wp2_with (go_at_call 40; (with_reducible refine (vector_CheckSpots.calls A0 c0 l0 e _ (Kd.C_below HR.out HB0.out) hc0 HE.out).mono ?_); rintro e_ w1 ⟨rfl, hb1⟩)
    go_ret2
    exact ⟨_, rfl, Kd.R_nil _ _ _ _ _, HB0.out.trans (hb1.mono HB0.out.size)⟩
  subst h0
  rw [if_pos rfl] at h
  have HSM := Aside0.mk (small_of_check HE.out)
  cases hv : rangedV (a1_0, a1_1, a1_2)
  · rw [hv, if_neg (by decide)] at h
    obtain ⟨rfl, rfl⟩ := Prod.mk.inj (Option.some.inj h)
    have HV := Aside0.mk hv
    clear h hv
    go_enter Try.func25, Try.ntmps25
    go_wp2_with (first
      | (go_at_call 40; (with_reducible refine (vector_CheckSpots.calls A0 c0 l0 0 _ (Kd.C_below HR.out HB0.out) hc0 HE.out).mono ?_); rintro e_ w1 ⟨rfl, hb1⟩; have hs := shift_world w w1 a1_0 a1_1 a1_2 hb1; have HB1 := Aside0.mk hs.1; have s0 := hs.2.1; have s1 := hs.2.2.1; have s2 := hs.2.2.2; clear hs)
      | (go_at_call 56; (with_reducible refine (of_calls a1_0 a1_1 a1_2 _).mono ?_); rintro e_ w2 ⟨rfl, hb2⟩)
      | (go_at_call 59; (with_reducible refine (ranged_calls a1_0 a1_1 a1_2 w2.heap.size _ (heap_alloc_new w2 _)).mono ?_); rw [HV.out]; rintro e_ w4 ⟨rfl, hb4⟩))
    go_ret2
    have B2 := HB1.out.trans (hb2.mono HB1.out.size)
    have B3 := B2.alloc B2.size (.cells #[.int .i64 a1_0, .int .i64 a1_1, .int .i64 a1_2] 86)
    exact ⟨_, rfl, Kd.R_nil _ _ _ _ _, B3.trans (hb4.mono B3.size)⟩
  · rw [hv, if_pos rfl] at h
    have HV := Aside0.mk hv
    clear hv
    obtain ⟨lg, hlg⟩ : ∃ lg, (eachF (shiftS a1_0 a1_1 a1_2) false l0).1 = lg := ⟨_, rfl⟩
    have HLG := Aside0.mk hlg
    rw [hlg] at h
    have HH := Aside0.mk h
    clear hlg h
    go_enter Try.func25, Try.ntmps25
    go_upto_region 10 with (first
      | (go_at_call 40; (with_reducible refine (vector_CheckSpots.calls A0 c0 l0 0 _ (Kd.C_below HR.out HB0.out) hc0 HE.out).mono ?_); rintro e_ w1 ⟨rfl, hb1⟩; have hs := shift_world w w1 a1_0 a1_1 a1_2 hb1; have HB1 := Aside0.mk hs.1; have s0 := hs.2.1; have s1 := hs.2.2.1; have s2 := hs.2.2.2; clear hs)
      | (go_at_call 56; (with_reducible refine (of_calls a1_0 a1_1 a1_2 _).mono ?_); rintro e_ w2 ⟨rfl, hb2⟩)
      | (go_at_call 59; (with_reducible refine (ranged_calls a1_0 a1_1 a1_2 w2.heap.size _ (heap_alloc_new w2 _)).mono ?_); rw [HV.out]; rintro e_ w4 ⟨rfl, hb4⟩; have HW := Aside0.mk (shift_mid w w1 w2 w4 a1_0 a1_1 a1_2 HB1.out hb2 hb4))
      | (go_at_call 48; refine (each_calls (shiftS a1_0 a1_1 a1_2) false (fun W s => W.heap[w2.heap.size]? = some (.cells #[.int .i64 a1_0, .int .i64 a1_1, .int .i64 a1_2] 86 (0, 0)) ∧ W.heap[w4.heap.size]? = some (.cells #[.bool s] 4 (0, 0))) w.heap.size (some w4.heap.size) #[.pointer (some ⟨w2.heap.size, 0, none⟩), .pointer (some ⟨w4.heap.size, 0, none⟩)] Try.func60 (by kernel_rfl) rfl A0 c0 l0 _ (fun W hb => Kd.C_below HR.out (HW.out.1.trans hb)) (by have := HSM.out; omega) HW.out.1.size (fun r hr => by cases hr; exact ⟨HW.out.2.2.2.2.1, HW.out.2.2.2.1⟩) (fun W W' s hs hb => ⟨(hb.block _ (Nat.lt_trans HW.out.2.2.2.2.2 HW.out.2.2.2.1)).trans hs.1, (hb.block _ HW.out.2.2.2.1).trans hs.2⟩) ⟨HW.out.2.1, HW.out.2.2.1⟩ (fun W s t g hg hs hh => (Shift1_calls t.1 t.2.1 t.2.2 a1_0 a1_1 a1_2 s g w2.heap.size w4.heap.size W hh hs.1 hs.2 (Nat.ne_of_lt (Nat.lt_of_lt_of_le HW.out.2.2.2.1 hg))).mono fun e W' ⟨h1, h2, h3, h4⟩ => ⟨h1, h2, ⟨(h4.2.2.2.2 _ (blk_lt hs.1) ⟨Nat.ne_of_lt (Nat.lt_of_lt_of_le (Nat.lt_trans HW.out.2.2.2.2.2 HW.out.2.2.2.1) hg), Nat.ne_of_lt HW.out.2.2.2.2.2⟩).trans hs.1, h3⟩, only_mono h4 (fun k hk => ⟨hk.1, fun e => hk.2 (by rw [e])⟩)⟩)).mono ?_; rintro e_ w6 ⟨v, rfl, hR, hch, hon⟩; have cg : w6.cell? ⟨w4.heap.size, 0, none⟩ = some (.bool (eachF (shiftS a1_0 a1_1 a1_2) false l0).1) := (blk_cell hch.2 0).trans rfl; rw [HLG.out] at cg))
    have HRR := Aside0.mk hR
    have HF := Aside0.mk (show Below w.heap.size w w6 from HW.out.1.trans (only_below hon HW.out.1.size (fun k hk e => by have := HW.out.2.2.2.2.1; injection e with e; omega)))
    clear hch hon hR
    cases lg
    · obtain ⟨rfl, rfl⟩ := Prod.mk.inj (Option.some.inj ((if_neg (by decide)).symm.trans HH.out))
      go_wp2
      go_ret2
      exact ⟨_, rfl, Kd.R_lower HRR.out HW.out.1.size, HF.out⟩
    · obtain ⟨rfl, rfl⟩ := Prod.mk.inj (Option.some.inj ((if_pos rfl).symm.trans HH.out))
      go_wp2
      go_ret2
      exact ⟨_, rfl, Kd.R_nil _ _ _ _ _, HF.out⟩

end Go.Proofs.Ytgfkodanekfekaa.X

-- Made by wip/xprint.py for this claim: the kit's printer over the translation, with hand-proved functions in their places. Lean checks it.
import Derived.Test.YtkpojbglckmddaaX0
import Derived.Test.YtkpojbglckmddaaX1
namespace Go.Proofs.Ytkpojbglckmddaa.X
open Go.RowKit Go.Proofs.YtkpojbglckmddaaW.PrintWords Go.Proofs.YtkpojbglckmddaaW.PrintLast Go.Proofs.YtkpojbglckmddaaW.PrintMore
attribute [local go_sem] max2_int min2_int max_two min_two max_three min_three max_four min_four   -- for this text's walks alone
set_option linter.unusedVariables false
set_option linter.unusedSimpArgs false

/-! ### runout_Differ: function 18 -/
def runout_Differ.j0 : Nat → Int → Int → Int → Bool → Option (Bool × Int)
  | 0, _, _, _, _ => none
  | k + 1, x0, x1, x2, x8 => if x8 = true then (some (false, 2)) else (if x0 > x1 then (some (false, 9)) else ((runout_tolerance.f x2).bind fun t141 => (if t141 = true then ((runout_near.f k x0 x1 x2).bind fun t142 => (some (t142, 0))) else (some (false, 2)))))
def runout_Differ.f (k : Nat) (a0 : Int) (a1 : Int) (a2 : Int) : Option (Bool × Int) := if a0 < 0 then (runout_Differ.j0 k a0 a1 a2 true) else (if a0 > 80000000000 then (runout_Differ.j0 k a0 a1 a2 true) else (if a1 < 0 then (runout_Differ.j0 k a0 a1 a2 true) else (runout_Differ.j0 k a0 a1 a2 (decide (a1 > 80000000000)))))
theorem runout_Differ.mono_l : ∀ k, (∀ y0 y1 y2 y3, LeO (runout_Differ.j0 k y0 y1 y2 y3) (runout_Differ.j0 (k + 1) y0 y1 y2 y3))
  | 0 => fun _ _ _ _ r h => by simp [runout_Differ.j0] at h
  | k + 1 => by
    have ih0 := runout_Differ.mono_l k
    · intro y0 y1 y2 y3
      unfold runout_Differ.j0
      repeat' first
      | (with_reducible exact ih0 _ _ _ _)
      | (with_reducible exact runout_near.mono _ _ _ _)
      | (with_reducible exact LeO.refl _)
      | (with_reducible exact LeO.none _)
      | (with_reducible refine LeO.ite ?_ ?_)
      | (with_reducible refine LeO.bind ?_ (fun _ => ?_))
      | exact ih0 _ _ _ _
      | exact runout_near.mono _ _ _ _
      | exact LeO.none _
      | refine LeO.ite ?_ ?_
      | refine LeO.bind ?_ (fun _ => ?_)
theorem runout_Differ.mono : ∀ a0 a1 a2 k, LeO (runout_Differ.f k a0 a1 a2) (runout_Differ.f (k + 1) a0 a1 a2) := by
  intro a0 a1 a2 k
  have ih0 := runout_Differ.mono_l k
  unfold runout_Differ.f
  repeat' first
      | (with_reducible exact ih0 _ _ _ _)
      | (with_reducible exact runout_near.mono _ _ _ _)
      | (with_reducible exact LeO.refl _)
      | (with_reducible exact LeO.none _)
      | (with_reducible refine LeO.ite ?_ ?_)
      | (with_reducible refine LeO.bind ?_ (fun _ => ?_))
      | exact ih0 _ _ _ _
      | exact runout_near.mono _ _ _ _
      | exact LeO.none _
      | refine LeO.ite ?_ ?_
      | refine LeO.bind ?_ (fun _ => ?_)
set_option maxHeartbeats 8000000 in
set_option maxRecDepth 100000 in
theorem runout_Differ.calls (k : Nat) (a0 : Int) (a1 : Int) (a2 : Int) (r1 : Bool) (r2 : Int) (w : World) (h : runout_Differ.f k a0 a1 a2 = some (r1, r2)) :
    Calls Try.prog 18 #[.int .i64 a0, .int .i64 a1, .int .i64 a2] w fun e w' => e = .returned (.tuple #[.bool r1, .int .i64 r2]) ∧ Below w.heap.size w w' := by
  have HB := Aside0.mk (Below.refl w.heap.size w)
  have H : (if a0 < 0 then (runout_Differ.j0 k a0 a1 a2 true) else (if a0 > 80000000000 then (runout_Differ.j0 k a0 a1 a2 true) else (if a1 < 0 then (runout_Differ.j0 k a0 a1 a2 true) else (runout_Differ.j0 k a0 a1 a2 (decide (a1 > 80000000000)))))) = some (r1, r2) := h
  clear h
  have HC4 := Aside0.mk H
  clear H
  go_enter Try.func18, Try.ntmps18
  go_upto_region 1 with (fail)
  go_cut [8] (fun v8 wc => ∃ (kq : Nat) (x8_3 : Bool), v8 = .bool x8_3 ∧ Aside0 (runout_Differ.j0 kq a0 a1 a2 x8_3 = some (r1, r2)) ∧ Aside0 (kq ≤ k) ∧ Aside0 (Below w.heap.size w wc))
  case first =>
    have H := HC4.out
    clear HC4
    by_cases c5 : a0 < 0
    · rw [if_pos c5] at H
      have c5b0 : decide (a0 < 0) = true := decide_eq_true c5
      clear c5
      (first | rw [c5b0] | (simp only [i64_w, i32_w]; rw [c5b0]) | skip)
      have H' := Aside0.mk H
      clear H
      go_wp2
      go_meet
      case rel => exact ⟨_, (true), (by first | rfl | (simp; done) | (simp [*]; done)), H', ⟨by first | omega | exact Nat.le_refl _⟩, ⟨by repeat (first | (with_reducible first | exact HB.out | apply below_alloc | apply pw_below_drewN | apply below_drew1) | exact HB.out)⟩⟩
    · rw [if_neg c5] at H
      have c5b0 : decide (a0 < 0) = false := decide_eq_false c5
      clear c5
      (first | rw [c5b0] | (simp only [i64_w, i32_w]; rw [c5b0]) | skip)
      by_cases c6 : a0 > 80000000000
      · rw [if_pos c6] at H
        have c6b0 : decide (80000000000 < a0) = true := decide_eq_true c6
        clear c6
        have H' := Aside0.mk H
        clear H
        go_wp2
        go_meet
        case rel => exact ⟨_, (true), (by first | rfl | (simp; done) | (simp [*]; done)), H', ⟨by first | omega | exact Nat.le_refl _⟩, ⟨by repeat (first | (with_reducible first | exact HB.out | apply below_alloc | apply pw_below_drewN | apply below_drew1) | exact HB.out)⟩⟩
      · rw [if_neg c6] at H
        have c6b0 : decide (80000000000 < a0) = false := decide_eq_false c6
        clear c6
        by_cases c7 : a1 < 0
        · rw [if_pos c7] at H
          have c7b0 : decide (a1 < 0) = true := decide_eq_true c7
          clear c7
          have H' := Aside0.mk H
          clear H
          go_wp2
          go_meet
          case rel => exact ⟨_, (true), (by first | rfl | (simp; done) | (simp [*]; done)), H', ⟨by first | omega | exact Nat.le_refl _⟩, ⟨by repeat (first | (with_reducible first | exact HB.out | apply below_alloc | apply pw_below_drewN | apply below_drew1) | exact HB.out)⟩⟩
        · rw [if_neg c7] at H
          have c7b0 : decide (a1 < 0) = false := decide_eq_false c7
          clear c7
          have H' := Aside0.mk H
          clear H
          go_wp2
          go_meet
          case rel => exact ⟨_, (decide (a1 > 80000000000)), (by first | rfl | (simp; done) | (simp [*]; done)), H', ⟨by first | omega | exact Nat.le_refl _⟩, ⟨by repeat (first | (with_reducible first | exact HB.out | apply below_alloc | apply pw_below_drewN | apply below_drew1) | exact HB.out)⟩⟩
  case rest =>
    clear HC4
    try clear c1
    try clear p2
    try clear c5
    try clear c5b0
    try clear c6
    try clear c6b0
    try clear c7
    try clear c7b0
    obtain ⟨kq, x8_3, rfl, HA, HJ3, HB⟩ := hcut
    cases kq with
    | zero => exact absurd HA.out (by simp [runout_Differ.j0])
    | succ kj3 =>
      have H := HA.out
      clear HA
      simp only [runout_Differ.j0] at H
      by_cases c8 : x8_3 = true
      · subst c8
        have H1 : (some (false, 2)) = some (r1, r2) := by rw [if_pos rfl] at H; exact H
        clear H
        have H := H1
        clear H1
        simp only [Option.some.injEq, Prod.mk.injEq] at H
        obtain ⟨rfl, rfl⟩ := H
        go_wp2
        go_ret2
        exact ⟨by first | rfl | (simp [errW_none, errW_some] <;> rfl) | (simp [*, errW_none, errW_some] <;> rfl), by repeat (first | (with_reducible first | exact HB.out | apply below_alloc | apply pw_below_drewN | apply below_drew1) | exact HB.out)⟩
      · replace c8 := Bool.eq_false_iff.mpr c8
        subst c8
        have H1 : (if a0 > a1 then (some (false, 9)) else ((runout_tolerance.f a2).bind fun t141 => (if t141 = true then ((runout_near.f kj3 a0 a1 a2).bind fun t142 => (some (t142, 0))) else (some (false, 2))))) = some (r1, r2) := by rw [if_neg (show ¬ (false = true) by decide)] at H; exact H
        clear H
        have H := H1
        clear H1
        by_cases c9 : a0 > a1
        · rw [if_pos c9] at H
          have c9b0 : decide (a1 < a0) = true := decide_eq_true c9
          clear c9
          simp only [Option.some.injEq, Prod.mk.injEq] at H
          obtain ⟨rfl, rfl⟩ := H
          go_wp2
          go_ret2
          exact ⟨by first | rfl | (simp [errW_none, errW_some] <;> rfl) | (simp [*, errW_none, errW_some] <;> rfl), by repeat (first | (with_reducible first | exact HB.out | apply below_alloc | apply pw_below_drewN | apply below_drew1) | exact HB.out)⟩
        · rw [if_neg c9] at H
          have c9b0 : decide (a1 < a0) = false := decide_eq_false c9
          clear c9
          replace H := Option.bind_eq_some_iff.mp H
          obtain ⟨t141, A100, H⟩ := H
          replace H : (if t141 = true then ((runout_near.f kj3 a0 a1 a2).bind fun t142 => (some (t142, 0))) else (some (false, 2))) = some (r1, r2) := H
          have A10 := Aside0.mk A100
          clear A100
          by_cases c11 : t141 = true
          · subst c11
            have H1 : ((runout_near.f kj3 a0 a1 a2).bind fun t142 => (some (t142, 0))) = some (r1, r2) := by rw [if_pos rfl] at H; exact H
            clear H
            have H := H1
            clear H1
            replace H := Option.bind_eq_some_iff.mp H
            obtain ⟨t142, A120, H⟩ := H
            replace H : (some (t142, 0)) = some (r1, r2) := H
            have A12 := Aside0.mk A120
            clear A120
            simp only [Option.some.injEq, Prod.mk.injEq] at H
            obtain ⟨rfl, rfl⟩ := H
            go_wp2_with (first | ((with_reducible refine gate_callee (f := 42) rfl ?_); refine goesL_ (some 29) rfl rfl Try.func42 (by kernel_rfl) rfl #[.int .i64 a2] rfl (by (try simp only [List.map_toArray, List.map_cons, List.map_nil]); first | done | rfl | (simp only [List.length_drop, List.length_take]; rfl)) ?_; (with_reducible refine (runout_tolerance.calls a2 true _ A10.out).mono ?_); rintro e w' ⟨rfl, ⟨nd, rfl⟩⟩; refine ⟨_, rfl, ?_⟩) | ((with_reducible refine gate_callee (f := 43) rfl ?_); refine goesL_ (some 34) rfl rfl Try.func43 (by kernel_rfl) rfl #[.int .i64 a0, .int .i64 a1, .int .i64 a2] rfl (by (try simp only [List.map_toArray, List.map_cons, List.map_nil]); first | done | rfl | (simp only [List.length_drop, List.length_take]; rfl)) ?_; (with_reducible refine (runout_near.calls kj3 a0 a1 a2 t142 _ A12.out).mono ?_); rintro e w13 ⟨rfl, hb⟩; refine ⟨_, rfl, ?_⟩; have n0_ := Aside0.mk (below_step (by repeat (first | (with_reducible first | exact HB.out | apply below_alloc | apply pw_below_drewN | apply below_drew1) | exact HB.out)) hb); clear HB; have HB := n0_; clear n0_; (try clear hb); (try clear hb2); (try clear hk); (try clear hi)))
            go_ret2
            exact ⟨by first | rfl | (simp [errW_none, errW_some] <;> rfl) | (simp [*, errW_none, errW_some] <;> rfl), by repeat (first | (with_reducible first | exact HB.out | apply below_alloc | apply pw_below_drewN | apply below_drew1) | exact HB.out)⟩
          · replace c11 := Bool.eq_false_iff.mpr c11
            subst c11
            have H1 : (some (false, 2)) = some (r1, r2) := by rw [if_neg (show ¬ (false = true) by decide)] at H; exact H
            clear H
            have H := H1
            clear H1
            simp only [Option.some.injEq, Prod.mk.injEq] at H
            obtain ⟨rfl, rfl⟩ := H
            go_wp2_with (first | ((with_reducible refine gate_callee (f := 42) rfl ?_); refine goesL_ (some 29) rfl rfl Try.func42 (by kernel_rfl) rfl #[.int .i64 a2] rfl (by (try simp only [List.map_toArray, List.map_cons, List.map_nil]); first | done | rfl | (simp only [List.length_drop, List.length_take]; rfl)) ?_; (with_reducible refine (runout_tolerance.calls a2 false _ A10.out).mono ?_); rintro e w' ⟨rfl, ⟨nd, rfl⟩⟩; refine ⟨_, rfl, ?_⟩))
            go_ret2
            exact ⟨by first | rfl | (simp [errW_none, errW_some] <;> rfl) | (simp [*, errW_none, errW_some] <;> rfl), by repeat (first | (with_reducible first | exact HB.out | apply below_alloc | apply pw_below_drewN | apply below_drew1) | exact HB.out)⟩

-- NOT PRINTED: function 39 (runout_errors)

/-! ### runout_Check: function 16, proved by hand -/
/-- the error of a section behind its offset -/
def sectionTail (x : S62) : Int := if x.f1.length = 0 then 13 else if x.f1.length > 64 then 5 else allPoint x.f1
def badOffset (n : Int) : Bool := decide (n < -100000) || decide (100000 < n)
/-- the error of a section, whose place is behind another's -/
def sectionErr (x : S62) (before : Option Int) : Int :=
  if badOffset x.f0 then 2 else match before with
    | none => sectionTail x
    | some b => if x.f0 ≤ b then 9 else sectionTail x
set_option maxHeartbeats 8000000 in
set_option maxRecDepth 100000 in
theorem section_out (x : S62) (A : Option Addr) (c : Nat) (p : Value) (w : World) (hx : x.f0 < -100000 ∨ 100000 < x.f0) :
    Calls Try.prog 62 #[.agg #[.int .i64 x.f0, .slice A x.f1.length c], p] w fun e w' => e = .returned (.int .i64 2) ∧ Below w.heap.size w w' := by
  by_cases h1 : x.f0 < -100000
  · have g1 : decide (x.f0 < -100000) = true := decide_eq_true h1
    clear h1 hx
    go_enter Try.func62, Try.ntmps62
    go_wp2
    go_ret
    exact ⟨rfl, (Below.refl _ _).alloc (Nat.le_refl _) _⟩
  · have h2 : 100000 < x.f0 := by omega
    have g1 : decide (x.f0 < -100000) = false := decide_eq_false h1
    have g2 : decide (100000 < x.f0) = true := decide_eq_true h2
    clear h1 hx h2
    go_enter Try.func62, Try.ntmps62
    go_wp2
    go_ret
    exact ⟨rfl, (Below.refl _ _).alloc (Nat.le_refl _) _⟩
set_option maxHeartbeats 8000000 in
set_option maxRecDepth 100000 in
theorem section_nil (x : S62) (A : Option Addr) (c : Nat) (r : Int) (w : World) (hx1 : -100000 ≤ x.f0) (hx2 : x.f0 ≤ 100000) (hr : Kd.C k25 w A x.f1.length x.f1) (hc : x.f1.length ≤ c) (h : sectionTail x = r) :
    Calls Try.prog 62 #[.agg #[.int .i64 x.f0, .slice A x.f1.length c], .pointer none] w fun e w' => e = .returned (.int .i64 r) ∧ Below w.heap.size w w' := by
  have g1 : decide (x.f0 < -100000) = false := decide_eq_false (by omega)
  have g2 : decide (100000 < x.f0) = false := decide_eq_false (by omega)
  have hB : Below w.heap.size w (w.alloc (.cells #[.int .i64 x.f0, .slice A x.f1.length c] 62)) := (Below.refl _ _).alloc (Nat.le_refl _) _
  have HB := Aside0.mk hB
  clear hB
  by_cases h0 : x.f1.length = 0
  · obtain rfl : r = 13 := by rw [← h]; exact if_pos h0
    have g3 : (x.f1.length == 0) = true := by simp [h0]
    have g4 : ((x.f1.length : Int) == 0) = true := by simp [h0]
    clear h0 h
    go_enter Try.func62, Try.ntmps62
    go_wp2
    go_quiet (fail)
    go_wp2
    go_ret
    exact ⟨rfl, pw_below_drewN ((Below.refl _ _).alloc (Nat.le_refl _) _) _⟩
  · have he : vector_Check.f x.f1 = some r := by rw [← h]; unfold sectionTail; rw [if_neg h0]; rfl
    have HE := Aside0.mk he
    have HR := Aside0.mk hr
    have g3 : (x.f1.length == 0) = false := by simpa using h0
    have g4 : ((x.f1.length : Int) == 0) = false := beq_eq_false_iff_ne.mpr (fun e => h0 (by exact_mod_cast e))
    clear h0 h he hr
    go_enter Try.func62, Try.ntmps62
    go_wp2
    go_quiet (fail)
    go_wp2_with (go_at_call 34; refine (vector_Check.calls _ _ _ _ _ (Kd.C_below HR.out (by first | exact HB.out | exact pw_below_drewN HB.out _)) hc HE.out).mono ?_; rintro e w' ⟨rfl, hb⟩)
    go_ret
    exact ⟨rfl, below_then (by first | exact HB.out | exact pw_below_drewN HB.out _) (by simp) hb⟩
set_option maxHeartbeats 8000000 in
set_option maxRecDepth 100000 in
theorem section_behind (x : S62) (A : Option Addr) (c : Nat) (r : Int) (w : World) (a : Addr) (b : Int) (hp : w.cell? a = some (.int .i64 b)) (hb : b < x.f0) (hx1 : -100000 ≤ x.f0) (hx2 : x.f0 ≤ 100000) (hr : Kd.C k25 w A x.f1.length x.f1) (hc : x.f1.length ≤ c) (h : sectionTail x = r) :
    Calls Try.prog 62 #[.agg #[.int .i64 x.f0, .slice A x.f1.length c], .pointer (some a)] w fun e w' => e = .returned (.int .i64 r) ∧ Below w.heap.size w w' := by
  have g1 : decide (x.f0 < -100000) = false := decide_eq_false (by omega)
  have g2 : decide (100000 < x.f0) = false := decide_eq_false (by omega)
  have g5 : decide (x.f0 ≤ b) = false := decide_eq_false (by omega)
  have hB : Below w.heap.size w (w.alloc (.cells #[.int .i64 x.f0, .slice A x.f1.length c] 62)) := (Below.refl _ _).alloc (Nat.le_refl _) _
  have hp1 := pw_cell_below hB hp
  have HB := Aside0.mk hB
  clear hB
  by_cases h0 : x.f1.length = 0
  · obtain rfl : r = 13 := by rw [← h]; exact if_pos h0
    have g3 : (x.f1.length == 0) = true := by simp [h0]
    have g4 : ((x.f1.length : Int) == 0) = true := by simp [h0]
    clear h0 h
    go_enter Try.func62, Try.ntmps62
    go_wp2
    go_quiet (fail)
    go_wp2
    go_ret
    exact ⟨rfl, pw_below_drewN ((Below.refl _ _).alloc (Nat.le_refl _) _) _⟩
  · have he : vector_Check.f x.f1 = some r := by rw [← h]; unfold sectionTail; rw [if_neg h0]; rfl
    have HE := Aside0.mk he
    have HR := Aside0.mk hr
    have g3 : (x.f1.length == 0) = false := by simpa using h0
    have g4 : ((x.f1.length : Int) == 0) = false := beq_eq_false_iff_ne.mpr (fun e => h0 (by exact_mod_cast e))
    clear h0 h he hr
    go_enter Try.func62, Try.ntmps62
    go_wp2
    go_quiet (fail)
    go_wp2_with (go_at_call 34; refine (vector_Check.calls _ _ _ _ _ (Kd.C_below HR.out (by first | exact HB.out | exact pw_below_drewN HB.out _)) hc HE.out).mono ?_; rintro e w' ⟨rfl, hb⟩)
    go_ret
    exact ⟨rfl, below_then (by first | exact HB.out | exact pw_below_drewN HB.out _) (by simp) hb⟩
set_option maxHeartbeats 8000000 in
set_option maxRecDepth 100000 in
theorem section_order (x : S62) (A : Option Addr) (c : Nat) (w : World) (a : Addr) (b : Int) (hp : w.cell? a = some (.int .i64 b)) (hb : x.f0 ≤ b) (hx1 : -100000 ≤ x.f0) (hx2 : x.f0 ≤ 100000) :
    Calls Try.prog 62 #[.agg #[.int .i64 x.f0, .slice A x.f1.length c], .pointer (some a)] w fun e w' => e = .returned (.int .i64 9) ∧ Below w.heap.size w w' := by
  have g1 : decide (x.f0 < -100000) = false := decide_eq_false (by omega)
  have g2 : decide (100000 < x.f0) = false := decide_eq_false (by omega)
  have g5 : decide (x.f0 ≤ b) = true := decide_eq_true hb
  have hB : Below w.heap.size w (w.alloc (.cells #[.int .i64 x.f0, .slice A x.f1.length c] 62)) := (Below.refl _ _).alloc (Nat.le_refl _) _
  have hp1 := pw_cell_below hB hp
  clear hB
  go_enter Try.func62, Try.ntmps62
  go_wp2
  go_quiet (fail)
  go_wp2
  go_ret
  exact ⟨rfl, pw_below_drewN ((Below.refl _ _).alloc (Nat.le_refl _) _) _⟩
/-- what a pointer to the section before reads as -/
def BeforeAt (w : World) (p : Option Addr) (b : Option Int) : Prop :=
  (p = none ∧ b = none) ∨ ∃ a o, p = some a ∧ b = some o ∧ w.cell? a = some (.int .i64 o)
theorem section_calls (x : S62) (A : Option Addr) (c : Nat) (p : Option Addr) (b : Option Int) (w : World) (hp : BeforeAt w p b) (hr : Kd.C k25 w A x.f1.length x.f1) (hc : x.f1.length ≤ c) :
    Calls Try.prog 62 #[.agg #[.int .i64 x.f0, .slice A x.f1.length c], .pointer p] w fun e w' => e = .returned (.int .i64 (sectionErr x b)) ∧ Below w.heap.size w w' := by
  by_cases hx : x.f0 < -100000 ∨ 100000 < x.f0
  · have : sectionErr x b = 2 := by unfold sectionErr badOffset; rw [if_pos (by simpa using hx)]
    rw [this]
    exact section_out x A c _ w hx
  · have hf : badOffset x.f0 = false := by unfold badOffset; simp; omega
    rcases hp with ⟨rfl, rfl⟩ | ⟨a, o, rfl, rfl, hcell⟩
    · exact section_nil x A c _ w (by omega) (by omega) hr hc (by unfold sectionErr; rw [hf]; rfl)
    · by_cases hb : x.f0 ≤ o
      · have : sectionErr x (some o) = 9 := by unfold sectionErr; rw [hf]; simp [hb]
        rw [this]
        exact section_order x A c w a o hcell hb (by omega) (by omega)
      · exact section_behind x A c _ w a o hcell (by omega) (by omega) (by omega) hr hc (by unfold sectionErr; rw [hf]; simp [hb])
/-- the error of section number i -/
def errAt (l : List S62) (i : Nat) : Int := sectionErr (rd_T62 l i) (if i = 0 then none else some (rd_T62 l ((i - 1 : Nat) : Int)).f0)
def errsTo (l : List S62) (i : Nat) : List Int := (List.range i).map (errAt l)
theorem errsTo_succ (l : List S62) (i : Nat) : errsTo l (i + 1) = errsTo l i ++ [errAt l i] := by simp [errsTo, List.range_succ]
set_option maxHeartbeats 8000000 in
set_option maxRecDepth 100000 in
theorem errors1_in (n : Nat) (hn : 1 ≤ n) (l0 : List S62) (A : Option Addr) (c : Nat) (lp Bl n₀ : Nat) (w0 : World) (hn₀ : n₀ = w0.heap.size) (J Jx : List Int → World → Prop) (W : World)
    (hY : ∀ pre x W1, J pre W1 → pre.length < l0.length → YieldAt Fence.wide (n - 1) Try.prog lp #[.int .i64 x] W1 fun e W' =>
      (e = .returned (.bool true) ∧ J (pre ++ [x]) W' ∧ Below n₀ W1 W') ∨ (e = .returned (.bool false) ∧ Jx (pre ++ [x]) W'))
    (hW : Below n₀ w0 W) (hJ : AbidesFrom W.heap.size J) (hB : Bl < n₀) (hcell : w0.cell? ⟨Bl, 0, none⟩ = some (.slice A l0.length c))
    (hr : Kd.C k62 w0 A l0.length l0) (hl : l0.length ≤ 9223372036854775807) (h0 : J [] W) :
    CallsIn Fence.wide n Try.prog 61 #[.func (.yield lp) #[] #[], .pointer (some ⟨Bl, 0, none⟩)] W fun e W' => (∃ v, e = .returned v) ∧
      ((∃ ys, ys = errsTo l0 l0.length ∧ J ys W') ∨ (∃ pre, (∃ i, i ≤ l0.length ∧ pre = errsTo l0 i) ∧ Jx pre W')) := by
  have HR := Aside0.mk hr
  have HY := Aside0.mk hY
  have HJ := Aside0.mk hJ
  have HC := Aside0.mk hcell
  have HW := Aside0.mk hW
  have H0 := Aside0.mk h0
  have hc1 : W.cell? ⟨Bl, 0, none⟩ = some (.slice A l0.length c) := (hW.cell (p := ⟨Bl, 0, none⟩) hB).trans hcell
  clear hr hY hJ hcell hW h0
  refine callsIn_of_wp Try.func61 rfl trivial ?_ rfl
  simp only [Try.ntmps61, List.size_toArray, List.length_cons, List.length_nil, Nat.reduceAdd, Nat.reduceSub, Array.replicate_succ, Array.replicate_zero, List.push_toArray, List.append_toArray, List.nil_append, List.cons_append]
  gi_wp2
  gi_loopw [3, 7] (fun v3 v7 wr => ∃ (i : Nat) (p : Option Addr), i ≤ l0.length ∧ v7 = .int .i64 i ∧ v3 = .pointer p ∧ Aside0 (J (errsTo l0 i) wr) ∧ Aside0 (Below n₀ w0 wr) ∧
      Aside0 (BeforeAt w0 p (if i = 0 then none else some (rd_T62 l0 ((i - 1 : Nat) : Int)).f0))) (fun _ v7 _ => l0.length - (intOf v7).toNat)
  case atStart => exact ⟨0, none, Nat.zero_le _, rfl, rfl, H0, HW, ⟨.inl ⟨rfl, rfl⟩⟩⟩
  case round =>
    obtain ⟨i, p, hi, rfl, rfl, HJi, HWi, HP⟩ := hrel
    by_cases hlt : i < l0.length
    · obtain ⟨ad, A1, c1, rfl, h1, h2, h3, h4⟩ := at_T62 (Kd.C_below HR.out (HWi.out.mono (by omega))) i (by omega) (by omega)
      simp only [Int.toNat_natCast] at h1 h2
      have hc2 : wr.cell? ⟨Bl, 0, none⟩ = some (.slice (some ad) l0.length c) := (HWi.out.cell (p := ⟨Bl, 0, none⟩) hB).trans HC.out
      have HP2 := Aside0.mk (show BeforeAt wr p (if i = 0 then none else some (rd_T62 l0 ((i - 1 : Nat) : Int)).f0) by
        rcases HP.out with ⟨e1, e2⟩ | ⟨a, o, e1, e2, e3⟩
        · exact .inl ⟨e1, e2⟩
        · exact .inr ⟨a, o, e1, e2, pw_cell_below (HWi.out.mono (by omega)) e3⟩)
      have HSC := Aside0.mk (show Calls Try.prog 62 #[.agg #[.int .i64 (rd_T62 l0 i).f0, .slice A1 (rd_T62 l0 i).f1.length c1], .pointer p] wr (fun e w' => e = .returned (.int .i64 (errAt l0 i)) ∧ Below wr.heap.size wr w') from
        section_calls (rd_T62 l0 i) A1 c1 p _ wr HP2.out h4 h3)
      clear HP2 h3 h4
      have hfn : Fence.wide.fn 62 := trivial
      gi_wp2_with (gi_at_call 62; refine (callsIn_wide.2 HSC.out).mono ?_; rintro e w1 ⟨rfl, hb⟩; obtain ⟨fn, tmps, assign, body, hy, hR⟩ := HY.out (errsTo l0 i) (errAt l0 i) w1 (HJ.out _ wr _ none HJi.out (grown_of_below hb none) (by simp)) (by simp [errsTo]; exact hlt))
      have hW1 : Below n₀ w0 w1 := HWi.out.trans (hb.mono (by have := HWi.out.size; omega))
      have HW1 := Aside0.mk hW1
      clear hW1
      refine hR.mono ?_
      rintro e W3 (⟨rfl, hJ3, hk3⟩ | ⟨rfl, hJx3⟩)
      · have hc3 : W3.cell? ⟨Bl, 0, none⟩ = some (.slice (some ad) l0.length c) := ((HW1.out.trans hk3).cell (p := ⟨Bl, 0, none⟩) hB).trans HC.out
        have HJ3 := Aside0.mk hJ3
        have HK3 := Aside0.mk hk3
        have HB1 := Aside0.mk hb
        clear hJ3 hk3 hb h1 h2 hc2 hR hy
        gi_wp2
        go_roundw
        case rel =>
          obtain ⟨ad2, A2, c2, e2, hh, _⟩ := at_T62 HR.out i (by omega) (by omega)
          obtain rfl := Option.some.inj e2
          simp only [Int.toNat_natCast] at hh
          exact ⟨i + 1, some (ad.add (i * 2)), by omega, by go_num, rfl, ⟨by rw [errsTo_succ]; exact HJ3.out⟩, ⟨HW1.out.trans HK3.out⟩, ⟨.inr ⟨_, _, rfl, if_neg (by omega), by simpa using hh⟩⟩⟩
        case measure => simp [intOf]; omega
      · gi_wp2
        refine bodyPost_ret (results_none rfl _ _ _) rfl ?_
        exact ⟨⟨_, rfl⟩, .inr ⟨_, ⟨i + 1, by omega, by rw [errsTo_succ]⟩, hJx3⟩⟩
    · gi_wp2
      go_end0
      exact ⟨⟨_, rfl⟩, .inl ⟨_, rfl, by have e : i = l0.length := by omega
                                        subst e; exact HJi.out⟩⟩

def firstErr (l : List Int) : Int := (l.find? (fun e => decide (e ≠ 0))).getD 0
theorem firstErr_zero (l : List Int) (h : ∀ e ∈ l, e = 0) : firstErr l = 0 := by
  unfold firstErr
  rw [List.find?_eq_none.mpr (by intro e he; simp [h e he])]
  rfl
theorem firstErr_snoc (l : List Int) (e : Int) (m : List Int) (h : ∀ e ∈ l, e = 0) (he : e ≠ 0) : firstErr (l ++ [e] ++ m) = e := by
  unfold firstErr
  rw [List.append_assoc, List.find?_append, List.find?_eq_none.mpr (by intro e he; simp [h e he])]
  simp [he]
theorem errsTo_split (l : List S62) (i n : Nat) (h : i ≤ n) : ∃ m, errsTo l n = errsTo l i ++ m := by
  refine ⟨(List.range' i (n - i)).map (errAt l), ?_⟩
  unfold errsTo
  rw [← List.map_append, List.range_eq_range', List.range_eq_range']
  congr 1
  have := List.range'_append_1 (s := 0) (m := i) (n := n - i)
  rw [Nat.zero_add] at this
  rw [this, show i + (n - i) = n by omega]
theorem errors_calls (l0 : List S62) (A : Option Addr) (c : Nat) (w : World) :
    Calls Try.prog 39 #[.slice A l0.length c] w fun e w' => e = .returned (.func (.func 61) #[] #[.pointer (some ⟨w.heap.size, 0, none⟩)]) ∧ w' = w.alloc (.cells #[.slice A l0.length c] 22) := by
  go_enter Try.func39, Try.ntmps39
  go_wp2
  go_ret
  exact ⟨rfl, rfl⟩
def errsOf (l : List S62) : Int := if l.length = 0 then 13 else if 32 < l.length then 5 else firstErr (errsTo l l.length)
def runout_Check.f (l0 : List S62) : Option Int := some (errsOf l0)
section
attribute [local go_sem] Oper.semAt_some
set_option maxHeartbeats 8000000 in
set_option maxRecDepth 100000 in
theorem check_in (n : Nat) (hn : 3 ≤ n) (A0 : Option Addr) (c0 : Nat) (l0 : List S62) (w : World) (hr0 : Kd.C k62 w A0 l0.length l0) (h0 : l0.length ≠ 0) (h32 : ¬ 32 < l0.length) :
    CallsIn Fence.wide n Try.prog 16 #[.slice A0 l0.length c0] w fun e w' => e = .returned (.int .i64 (firstErr (errsTo l0 l0.length))) ∧ Below w.heap.size w w' := by
  have g1 : (l0.length == 0) = false := by simpa using h0
  have g2 : ((l0.length : Int) == 0) = false := beq_eq_false_iff_ne.mpr (fun e => h0 (by exact_mod_cast e))
  have g3 : decide (32 < l0.length) = false := decide_eq_false h32
  have g4 : decide (32 < (l0.length : Int)) = false := decide_eq_false (by omega)
  have HR := Aside0.mk hr0
  have h1 : 1 ≤ n := by omega
  have hfn : Fence.wide.fn 39 := trivial
  have HL := Aside0.mk h32
  clear hr0 h0 h32
  refine callsIn_of_wp_marks Try.func16 rfl trivial ?_ rfl
  simp only [Try.ntmps16, List.size_toArray, List.length_cons, List.length_nil, Nat.reduceAdd, Nat.reduceSub, Array.replicate_succ, Array.replicate_zero, List.push_toArray, List.append_toArray, List.nil_append, List.cons_append]
  gi_wp2_with (gi_at_call 39; refine (callsIn_wide.2 (errors_calls l0 A0 c0 _)).mono ?_; rintro e w' ⟨rfl, rfl⟩)
  have k0 := xl_cell_new w (.int .i64 0) 31
  have k1 := xl_cell_new (w.alloc (.cells #[.int .i64 0] 31)) (.slice A0 l0.length c0) 22
  simp only [World.size_alloc] at k1
  have hB0 : Below w.heap.size w ((w.alloc (.cells #[.int .i64 0] 31)).alloc (.cells #[.slice A0 l0.length c0] 22)) := ((Below.refl _ w).alloc (Nat.le_refl _) _).alloc (by simp) _
  refine wpIn_rangeFunc_ownF rfl h1 (gf := 61) (lb := #[.pointer (some ⟨w.heap.size + 1, 0, none⟩)]) rfl trivial (enters_of Try.func61 (by kernel_rfl) rfl)
    (encs := fun x => #[.int .i64 x]) (N := l0.length) (S := fun ys => ys = errsTo l0 l0.length) (Sp := fun pre => ∃ i, i ≤ l0.length ∧ pre = errsTo l0 i) (Kp := Below (w.heap.size + 1 + 1))
    (w0 := (w.alloc (.cells #[.int .i64 0] 31)).alloc (.cells #[.slice A0 l0.length c0] 22))
    (fun lp J Jx W hW hJ hJx hY hJ0 => errors1_in (n - 1) (by omega) l0 A0 c0 lp (w.heap.size + 1) (w.heap.size + 1 + 1) ((w.alloc (.cells #[.int .i64 0] 31)).alloc (.cells #[.slice A0 l0.length c0] 22)) (by simp) J Jx W hY (hW.mono (by simp)) hJ (by omega) k1.1 (Kd.C_below HR.out hB0) (by have := HL.out; omega) hJ0)
    belowK_t (belowK_b (by simp)) (Below.refl _ _) (fun _ => rfl)
    (fun pre W => ((∀ y ∈ pre, y = 0) ∧ W.cell? ⟨w.heap.size, 0, none⟩ = some (.int .i64 0) ∧ W.frozen? ⟨w.heap.size, 0, none⟩ = false) ∧ Below w.heap.size w W)
    (fun c pre W => (c = .ret ∧ ∃ pre' e, (∀ y ∈ pre', y = 0) ∧ e ≠ 0 ∧ pre = pre' ++ [e] ∧ W.cell? ⟨w.heap.size, 0, none⟩ = some (.int .i64 e)) ∧ Below w.heap.size w W)
    (OwnFrom.and (Own.from (fun s A B row hs hg hr => ⟨hs.1, Go.cell_kept hs.2.1 hg hr, (Go.frozen_kept hs.2.1 hg hr).trans hs.2.2⟩) _) (ownFrom_below (Nat.le_refl _) (by simp; omega)))
    (fun c => OwnFrom.and (Own.from (fun s A B row hs hg hr => by obtain ⟨e1, p, e, h1, h2, h3, h4⟩ := hs; exact ⟨e1, p, e, h1, h2, h3, Go.cell_kept h4 hg hr⟩) _) (ownFrom_below (Nat.le_refl _) (by simp; omega)))
    ⟨⟨by simp, xl_cell_alloc _ k0.1, xl_frozen_alloc _ k0.1 k0.2⟩, hB0⟩
    (fun x => { tmps := #[.slice A0 l0.length c0, undef, .pointer (some ⟨w.heap.size, 0, none⟩), .int .i64 x, .slice A0 l0.length c0, .int .i64 l0.length, .bool false, .slice A0 l0.length c0, .int .i64 l0.length, .bool false, .slice A0 l0.length c0, .func (.func 61) #[] #[.pointer (some ⟨w.heap.size + 1, 0, none⟩)], .int .i64 x, undef, undef, undef], defers := [] }) ?assign ?body ?done ?stop
  case assign =>
    intro l x W K hK
    gi_wp2
    exact hK
  case body =>
    rintro l pre x W ⟨⟨hp, hcr, hfr⟩, hB⟩ _
    by_cases hx : x = 0
    · have g5 : (x == 0) = true := by simp [hx]
      have g6 : (x != 0) = false := by simp [hx]
      have HX := Aside0.mk hx
      clear hx
      gi_wp2
      exact ⟨KeepsOthers.refl _, Below.refl _ _, ⟨fun y hy => (List.mem_append.1 hy).elim (hp y) (fun e => by simp at e; rw [e]; exact HX.out), hcr, hfr⟩, hB⟩
    · have g5 : (x == 0) = false := by simp [hx]
      have g6 : (x != 0) = true := by simp [hx]
      have HX := Aside0.mk hx
      clear hx
      gi_wp2
      exact ⟨KeepsOthers.setCell _ _ _, ⟨rfl, pre, x, hp, HX.out, rfl, World.cell?_setCell_same' _ _ _ (by rw [hcr]; rfl)⟩, hB.setCell (p := ⟨w.heap.size, 0, none⟩) (by simp) _⟩
  case done =>
    rintro D ys W hD rfl ⟨⟨hne, hcr, hfr⟩, hB⟩ hK
    gi_wp2
    have hK' := (KeepsOthers.setCell W ⟨w.heap.size, 0, none⟩ (.int .i64 0)).same D _ hK rfl
    refine ⟨by simp, .inl ⟨_, _, rfl, run_takeDeferred hK', ?_⟩⟩
    have hc5 := Go.cell_kept (World.cell?_setCell_same' W ⟨w.heap.size, 0, none⟩ (.int .i64 0) (by rw [hcr]; rfl)) (grownBy_putObj' _ D (.deferred none)) (fun r e => by cases e; exact ⟨_, hK', rfl⟩)
    refine ⟨.int .i64 0, ?_, by rw [firstErr_zero _ hne], (hB.setCell (p := ⟨w.heap.size, 0, none⟩) (by simp) _).trans (belowK_b (w := w) (Nat.le_refl _) _ D _ _ (by simp at hD; omega) hK' rfl rfl)⟩
    simp [results, Try.f16, go_sem, hc5]
  case stop =>
    rintro D c pre W hD ⟨i, hi, hpre⟩ ⟨⟨rfl, pre', e, h1, h2, h3, hcr⟩, hB⟩ hK
    gi_wp2
    refine ⟨by simp, .inl ⟨_, _, rfl, run_takeDeferred hK, ?_⟩⟩
    have hc5 := Go.cell_kept hcr (grownBy_putObj' _ D (.deferred none)) (fun r e => by cases e; exact ⟨_, hK, rfl⟩)
    obtain ⟨m, hm⟩ := errsTo_split l0 i l0.length hi
    refine ⟨.int .i64 e, ?_, by rw [hm, ← hpre, h3, firstErr_snoc _ _ _ h1 h2], hB.trans (belowK_b (w := w) (Nat.le_refl _) W D _ _ (by simp at hD; omega) hK rfl rfl)⟩
    simp [results, Try.f16, go_sem, hc5]
end
set_option maxHeartbeats 8000000 in
set_option maxRecDepth 100000 in
theorem runout_Check.calls (A0 : Option Addr) (c0 : Nat) (l0 : List S62) (r : Int) (w : World) (hr0 : Kd.C k62 w A0 l0.length l0) (hc0 : l0.length ≤ c0) (h : runout_Check.f l0 = some r) :
    Calls Try.prog 16 #[.slice A0 l0.length c0] w fun e w' => e = .returned (.int .i64 r) ∧ Below w.heap.size w w' := by
  obtain rfl := Option.some.inj h
  clear h
  by_cases h0 : l0.length = 0
  · have he : errsOf l0 = 13 := if_pos h0
    rw [he]
    have g1 : (l0.length == 0) = true := by simp [h0]
    have g2 : ((l0.length : Int) == 0) = true := by simp [h0]
    clear h0 hr0 he
    go_enter Try.func16, Try.ntmps16
    go_wp2
    refine bodyPost_ret (v := .int .i64 13) (by simp [results, Try.f16, go_sem]) rfl ⟨rfl, (Below.refl _ _).alloc (Nat.le_refl _) _⟩
  · by_cases h32 : 32 < l0.length
    · have he : errsOf l0 = 5 := by unfold errsOf; rw [if_neg h0, if_pos h32]
      rw [he]
      have g1 : (l0.length == 0) = false := by simpa using h0
      have g2 : ((l0.length : Int) == 0) = false := beq_eq_false_iff_ne.mpr (fun e => h0 (by exact_mod_cast e))
      have g3 : decide (32 < l0.length) = true := decide_eq_true h32
      have g4 : decide (32 < (l0.length : Int)) = true := decide_eq_true (by omega)
      clear h0 h32 hr0 he
      go_enter Try.func16, Try.ntmps16
      go_wp2
      refine bodyPost_ret (v := .int .i64 5) (by simp [results, Try.f16, go_sem]) rfl ⟨rfl, (Below.refl _ _).alloc (Nat.le_refl _) _⟩
    · have he : errsOf l0 = firstErr (errsTo l0 l0.length) := by unfold errsOf; rw [if_neg h0, if_neg h32]
      rw [he]
      exact callsIn_wide.1 (check_in 3 (Nat.le_refl _) A0 c0 l0 w hr0 h0 h32)

/-! ### runout_check: function 46 -/
def runout_check.f (l0 : List (S62)) (a1_0 : Int) (a1_1 : Int) : Option (Int) := (runout_Check.f l0).bind fun t144 => (if t144 = 0 then ((runout_right.f a1_0 a1_1).bind fun t145 => (if t145 = true then (some 0) else (some 2))) else (some t144))
set_option maxHeartbeats 8000000 in
set_option maxRecDepth 100000 in
theorem runout_check.calls (A0 : Option Addr) (c0 : Nat) (l0 : List (S62)) (a1_0 : Int) (a1_1 : Int) (r : Int) (w : World) (hr0 : Kd.C k62 w A0 l0.length l0) (hc0 : l0.length ≤ c0) (h : runout_check.f l0 a1_0 a1_1 = some r) :
    Calls Try.prog 46 #[.slice A0 l0.length c0, .agg #[.int .i64 a1_0, .int .i64 a1_1]] w fun e w' => e = .returned (.int .i64 r) ∧ Below w.heap.size w w' := by
  have hu25 := Try.underlying25
  have HR0 := Aside0.mk hr0
  have HC0 := Aside0.mk hc0
  clear hr0 hc0
  have HB := Aside0.mk (Below.refl w.heap.size w)
  have H : ((runout_Check.f l0).bind fun t144 => (if t144 = 0 then ((runout_right.f a1_0 a1_1).bind fun t145 => (if t145 = true then (some 0) else (some 2))) else (some t144))) = some r := h
  clear h
  replace H := Option.bind_eq_some_iff.mp H
  obtain ⟨t144, A30, H⟩ := H
  replace H : (if t144 = 0 then ((runout_right.f a1_0 a1_1).bind fun t145 => (if t145 = true then (some 0) else (some 2))) else (some t144)) = some r := H
  have A3 := Aside0.mk A30
  clear A30
  by_cases c4 : t144 = 0
  · rw [if_pos c4] at H
    have c4b0 : (t144 == 0) = true := beq_iff_eq.mpr c4
    have c4b1 : (t144 != 0) = false := bne_eq_false_iff_eq.mpr c4
    clear c4
    replace H := Option.bind_eq_some_iff.mp H
    obtain ⟨t145, A50, H⟩ := H
    replace H : (if t145 = true then (some 0) else (some 2)) = some r := H
    have A5 := Aside0.mk A50
    clear A50
    by_cases c6 : t145 = true
    · subst c6
      have H1 : (some 0) = some r := by rw [if_pos rfl] at H; exact H
      clear H
      have H := H1
      clear H1
      obtain rfl := Option.some.inj H
      go_enter Try.func46, Try.ntmps46
      go_wp2_with (first | ((with_reducible refine gate_dst (N := 3) rfl ?_); refine box_event ?hg (N := 3) ?hd (cs := #[.int .i64 a1_0, .int .i64 a1_1]) (t := 25) ?hr ?_; (case hd => rfl); (case hg => rfl); (case hr => first | (go_simp; done) | (go_simp; rfl)); intro gb143 hg w7 hbox hb; have n0_ := Aside0.mk (below_step (by repeat (first | (with_reducible first | exact HB.out | apply below_alloc | apply pw_below_drewN | apply below_drew1) | exact HB.out)) hb); have n1_ := Aside0.mk (hbox); have n2_ := Aside0.mk ((by rw [hg]; exact (below_size (by repeat (first | (with_reducible first | exact HB.out | apply below_alloc | apply pw_below_drewN | apply below_drew1) | exact HB.out))) : w.heap.size ≤ gb143)); have n3_ := Aside0.mk ((by rw [hg]; exact (below_size (by repeat (first | (with_reducible first | exact HB.out | apply below_alloc | apply pw_below_drewN | apply below_drew1) | exact HB.out))) : w.heap.size ≤ gb143)); clear HB; have HB := n0_; have BK143 := n1_; have GW143 := n2_; have GE143 := n3_; clear n0_ n1_ n2_ n3_; clear hb hbox hg) | ((with_reducible refine gate_callee (f := 16) rfl ?_); refine goesL_ (some 7) rfl rfl Try.func16 (by kernel_rfl) rfl #[.slice A0 l0.length c0] rfl (by (try simp only [List.map_toArray, List.map_cons, List.map_nil]); first | done | rfl | (simp only [List.length_drop, List.length_take]; rfl)) ?_; (with_reducible refine (runout_Check.calls _ _ l0 t144 _ ?side1 ?side2 A3.out).mono ?_); (case side1 => repeat (first | exact (Kd.C_below HR0.out HB.out) | (with_reducible refine Kd.C_alloc ?_ _) | (with_reducible refine Kd.C_drewN ?_ _) | (with_reducible refine Kd.C_drew ?_))); (case side2 => exact HC0.out); rintro e w8 ⟨rfl, hb⟩; refine ⟨_, rfl, ?_⟩; have n0_ := Aside0.mk (blk_below (g := gb143) (o := .cells #[.int .i64 a1_0, .int .i64 a1_1] 25 (0, 0)) (by (with_reducible repeat (first | refine blk_drewN ?_ _ | refine blk_drew ?_ | refine blk_alloc ?_ _)); exact BK143.out) hb); have n1_ := Aside0.mk (below_step (by repeat (first | (with_reducible first | exact HB.out | apply below_alloc | apply pw_below_drewN | apply below_drew1 | refine below_set ?_ GE143.out) | exact HB.out)) hb); clear BK143; clear HB; have BK143 := n0_; have HB := n1_; clear n0_ n1_; (try clear hb); (try clear hb2); (try clear hk); (try clear hi); have hcz9_0 : w8.cell? ⟨gb143, 0, none⟩ = some (.int .i64 a1_0) := (blk_cell BK143.out 0).trans rfl; have hcz9_1 : w8.cell? ⟨gb143, 1, none⟩ = some (.int .i64 a1_1) := (blk_cell BK143.out 1).trans rfl; have hfz9_0 := blk_frozen BK143.out 0; have hfz9_1 := blk_frozen BK143.out 1) | ((with_reducible refine gate_callee (f := 35) rfl ?_); refine goesL_ (some 12) rfl rfl Try.func35 (by kernel_rfl) rfl #[.agg #[.int .i64 a1_0, .int .i64 a1_1]] rfl (by (try simp only [List.map_toArray, List.map_cons, List.map_nil]); first | done | rfl | (simp only [List.length_drop, List.length_take]; rfl)) ?_; (with_reducible refine (runout_right.calls a1_0 a1_1 true _ A5.out).mono ?_); rintro e w10 ⟨rfl, hb⟩; refine ⟨_, rfl, ?_⟩; have n0_ := Aside0.mk (blk_below (g := gb143) (o := .cells #[.int .i64 a1_0, .int .i64 a1_1] 25 (0, 0)) (by (with_reducible repeat (first | refine blk_drewN ?_ _ | refine blk_drew ?_ | refine blk_alloc ?_ _)); exact BK143.out) hb); have n1_ := Aside0.mk (below_step (by repeat (first | (with_reducible first | exact HB.out | apply below_alloc | apply pw_below_drewN | apply below_drew1 | refine below_set ?_ GE143.out) | exact HB.out)) hb); clear BK143; clear HB; have BK143 := n0_; have HB := n1_; clear n0_ n1_; (try clear hb); (try clear hb2); (try clear hk); (try clear hi)))
      go_ret
      exact ⟨by first | rfl | (simp [errW_none, errW_some] <;> rfl) | (simp [*, errW_none, errW_some] <;> rfl), by repeat (first | (with_reducible first | exact HB.out | apply below_alloc | apply pw_below_drewN | apply below_drew1 | refine below_set ?_ GE143.out) | exact HB.out)⟩
    · replace c6 := Bool.eq_false_iff.mpr c6
      subst c6
      have H1 : (some 2) = some r := by rw [if_neg (show ¬ (false = true) by decide)] at H; exact H
      clear H
      have H := H1
      clear H1
      obtain rfl := Option.some.inj H
      go_enter Try.func46, Try.ntmps46
      go_wp2_with (first | ((with_reducible refine gate_dst (N := 3) rfl ?_); refine box_event ?hg (N := 3) ?hd (cs := #[.int .i64 a1_0, .int .i64 a1_1]) (t := 25) ?hr ?_; (case hd => rfl); (case hg => rfl); (case hr => first | (go_simp; done) | (go_simp; rfl)); intro gb143 hg w11 hbox hb; have n0_ := Aside0.mk (below_step (by repeat (first | (with_reducible first | exact HB.out | apply below_alloc | apply pw_below_drewN | apply below_drew1) | exact HB.out)) hb); have n1_ := Aside0.mk (hbox); have n2_ := Aside0.mk ((by rw [hg]; exact (below_size (by repeat (first | (with_reducible first | exact HB.out | apply below_alloc | apply pw_below_drewN | apply below_drew1) | exact HB.out))) : w.heap.size ≤ gb143)); have n3_ := Aside0.mk ((by rw [hg]; exact (below_size (by repeat (first | (with_reducible first | exact HB.out | apply below_alloc | apply pw_below_drewN | apply below_drew1) | exact HB.out))) : w.heap.size ≤ gb143)); clear HB; have HB := n0_; have BK143 := n1_; have GW143 := n2_; have GE143 := n3_; clear n0_ n1_ n2_ n3_; clear hb hbox hg) | ((with_reducible refine gate_callee (f := 16) rfl ?_); refine goesL_ (some 7) rfl rfl Try.func16 (by kernel_rfl) rfl #[.slice A0 l0.length c0] rfl (by (try simp only [List.map_toArray, List.map_cons, List.map_nil]); first | done | rfl | (simp only [List.length_drop, List.length_take]; rfl)) ?_; (with_reducible refine (runout_Check.calls _ _ l0 t144 _ ?side1 ?side2 A3.out).mono ?_); (case side1 => repeat (first | exact (Kd.C_below HR0.out HB.out) | (with_reducible refine Kd.C_alloc ?_ _) | (with_reducible refine Kd.C_drewN ?_ _) | (with_reducible refine Kd.C_drew ?_))); (case side2 => exact HC0.out); rintro e w12 ⟨rfl, hb⟩; refine ⟨_, rfl, ?_⟩; have n0_ := Aside0.mk (blk_below (g := gb143) (o := .cells #[.int .i64 a1_0, .int .i64 a1_1] 25 (0, 0)) (by (with_reducible repeat (first | refine blk_drewN ?_ _ | refine blk_drew ?_ | refine blk_alloc ?_ _)); exact BK143.out) hb); have n1_ := Aside0.mk (below_step (by repeat (first | (with_reducible first | exact HB.out | apply below_alloc | apply pw_below_drewN | apply below_drew1 | refine below_set ?_ GE143.out) | exact HB.out)) hb); clear BK143; clear HB; have BK143 := n0_; have HB := n1_; clear n0_ n1_; (try clear hb); (try clear hb2); (try clear hk); (try clear hi); have hcz13_0 : w12.cell? ⟨gb143, 0, none⟩ = some (.int .i64 a1_0) := (blk_cell BK143.out 0).trans rfl; have hcz13_1 : w12.cell? ⟨gb143, 1, none⟩ = some (.int .i64 a1_1) := (blk_cell BK143.out 1).trans rfl; have hfz13_0 := blk_frozen BK143.out 0; have hfz13_1 := blk_frozen BK143.out 1) | ((with_reducible refine gate_callee (f := 35) rfl ?_); refine goesL_ (some 12) rfl rfl Try.func35 (by kernel_rfl) rfl #[.agg #[.int .i64 a1_0, .int .i64 a1_1]] rfl (by (try simp only [List.map_toArray, List.map_cons, List.map_nil]); first | done | rfl | (simp only [List.length_drop, List.length_take]; rfl)) ?_; (with_reducible refine (runout_right.calls a1_0 a1_1 false _ A5.out).mono ?_); rintro e w14 ⟨rfl, hb⟩; refine ⟨_, rfl, ?_⟩; have n0_ := Aside0.mk (blk_below (g := gb143) (o := .cells #[.int .i64 a1_0, .int .i64 a1_1] 25 (0, 0)) (by (with_reducible repeat (first | refine blk_drewN ?_ _ | refine blk_drew ?_ | refine blk_alloc ?_ _)); exact BK143.out) hb); have n1_ := Aside0.mk (below_step (by repeat (first | (with_reducible first | exact HB.out | apply below_alloc | apply pw_below_drewN | apply below_drew1 | refine below_set ?_ GE143.out) | exact HB.out)) hb); clear BK143; clear HB; have BK143 := n0_; have HB := n1_; clear n0_ n1_; (try clear hb); (try clear hb2); (try clear hk); (try clear hi)))
      go_ret
      exact ⟨by first | rfl | (simp [errW_none, errW_some] <;> rfl) | (simp [*, errW_none, errW_some] <;> rfl), by repeat (first | (with_reducible first | exact HB.out | apply below_alloc | apply pw_below_drewN | apply below_drew1 | refine below_set ?_ GE143.out) | exact HB.out)⟩
  · rw [if_neg c4] at H
    have c4b0 : (t144 == 0) = false := beq_eq_false_iff_ne.mpr c4
    have c4b1 : (t144 != 0) = true := bne_iff_ne.mpr c4
    obtain rfl := Option.some.inj H
    go_enter Try.func46, Try.ntmps46
    go_wp2_with (first | ((with_reducible refine gate_dst (N := 3) rfl ?_); refine box_event ?hg (N := 3) ?hd (cs := #[.int .i64 a1_0, .int .i64 a1_1]) (t := 25) ?hr ?_; (case hd => rfl); (case hg => rfl); (case hr => first | (go_simp; done) | (go_simp; rfl)); intro gb143 hg w15 hbox hb; have n0_ := Aside0.mk (below_step (by repeat (first | (with_reducible first | exact HB.out | apply below_alloc | apply pw_below_drewN | apply below_drew1) | exact HB.out)) hb); have n1_ := Aside0.mk (hbox); have n2_ := Aside0.mk ((by rw [hg]; exact (below_size (by repeat (first | (with_reducible first | exact HB.out | apply below_alloc | apply pw_below_drewN | apply below_drew1) | exact HB.out))) : w.heap.size ≤ gb143)); have n3_ := Aside0.mk ((by rw [hg]; exact (below_size (by repeat (first | (with_reducible first | exact HB.out | apply below_alloc | apply pw_below_drewN | apply below_drew1) | exact HB.out))) : w.heap.size ≤ gb143)); clear HB; have HB := n0_; have BK143 := n1_; have GW143 := n2_; have GE143 := n3_; clear n0_ n1_ n2_ n3_; clear hb hbox hg) | ((with_reducible refine gate_callee (f := 16) rfl ?_); refine goesL_ (some 7) rfl rfl Try.func16 (by kernel_rfl) rfl #[.slice A0 l0.length c0] rfl (by (try simp only [List.map_toArray, List.map_cons, List.map_nil]); first | done | rfl | (simp only [List.length_drop, List.length_take]; rfl)) ?_; (with_reducible refine (runout_Check.calls _ _ l0 t144 _ ?side1 ?side2 A3.out).mono ?_); (case side1 => repeat (first | exact (Kd.C_below HR0.out HB.out) | (with_reducible refine Kd.C_alloc ?_ _) | (with_reducible refine Kd.C_drewN ?_ _) | (with_reducible refine Kd.C_drew ?_))); (case side2 => exact HC0.out); rintro e w16 ⟨rfl, hb⟩; refine ⟨_, rfl, ?_⟩; have n0_ := Aside0.mk (blk_below (g := gb143) (o := .cells #[.int .i64 a1_0, .int .i64 a1_1] 25 (0, 0)) (by (with_reducible repeat (first | refine blk_drewN ?_ _ | refine blk_drew ?_ | refine blk_alloc ?_ _)); exact BK143.out) hb); have n1_ := Aside0.mk (below_step (by repeat (first | (with_reducible first | exact HB.out | apply below_alloc | apply pw_below_drewN | apply below_drew1 | refine below_set ?_ GE143.out) | exact HB.out)) hb); clear BK143; clear HB; have BK143 := n0_; have HB := n1_; clear n0_ n1_; (try clear hb); (try clear hb2); (try clear hk); (try clear hi)))
    go_ret
    exact ⟨by first | rfl | (simp [errW_none, errW_some] <;> rfl) | (simp [*, errW_none, errW_some] <;> rfl), by repeat (first | (with_reducible first | exact HB.out | apply below_alloc | apply pw_below_drewN | apply below_drew1 | refine below_set ?_ GE143.out) | exact HB.out)⟩

/-! ### runout_Circular: function 20, proved by hand -/
def runout_Circular.go (k : Nat) (l : List S62) (x y t : Int) : Nat → Option (Bool × Int × Int)
  | 0 => some (true, (l.length : Int), 0)
  | n + 1 => (runout_radii.f k x y [(rd_T62 l ((l.length - (n + 1) : Nat) : Int)).f1]).bind fun b => (runout_near.f k b.1 b.2 t).bind fun r =>
      if r = true then runout_Circular.go k l x y t n else some (false, ((l.length - (n + 1) : Nat) : Int), 0)
def runout_Circular.f (k : Nat) (l0 : List S62) (a1_0 a1_1 a2 : Int) : Option (Bool × Int × Int) :=
  (runout_check.f l0 a1_0 a1_1).bind fun e => if e = 0 then (runout_tolerance.f a2).bind fun b => if b = true then runout_Circular.go k l0 a1_0 a1_1 a2 l0.length else some (false, 0, 2) else some (false, 0, e)
theorem runout_Circular.mono_go (k : Nat) (l : List S62) (x y t : Int) : ∀ n, LeO (runout_Circular.go k l x y t n) (runout_Circular.go (k + 1) l x y t n)
  | 0 => LeO.refl _
  | n + 1 => LeO.bind (runout_radii.mono _ _ _ _) fun b => LeO.bind (runout_near.mono _ _ _ _) fun r => LeO.ite (runout_Circular.mono_go k l x y t n) (LeO.refl _)
theorem runout_Circular.mono : ∀ (l : List S62) (x y t : Int) (k : Nat), LeO (runout_Circular.f k l x y t) (runout_Circular.f (k + 1) l x y t) := fun l x y t k =>
  LeO.bind (LeO.refl _) fun _ => LeO.ite (LeO.bind (LeO.refl _) fun _ => LeO.ite (runout_Circular.mono_go k l x y t _) (LeO.refl _)) (LeO.refl _)
/-- a new row of one slice -/
theorem one_slice (W : World) (A : Option Addr) (c : Nat) (l : List S25) (hc : l.length ≤ c) (hr : Kd.C k25 W A l.length l) :
    Kd.C (Kd.slice 25 k25) (W.alloc (.cells #[.slice A l.length c] 23)) (some ⟨W.heap.size, 0, none⟩) [l].length [l] := by
  refine ⟨rfl, by simp, fun _ => ⟨_, rfl, fun j p hp => ?_⟩⟩
  cases j with
  | succ j => simp at hp
  | zero =>
    simp at hp
    subst hp
    refine ⟨[.slice A l.length c], rfl, ⟨A, c, rfl, hc, Kd.C_below hr ((Below.refl _ _).alloc (Nat.le_refl _) _)⟩, fun i u hu => ?_⟩
    cases i with
    | succ i => simp at hu
    | zero => simp at hu; subst hu; exact (xl_cell_new W _ _).1
set_option maxHeartbeats 8000000 in
set_option maxRecDepth 100000 in
theorem circ_loop (k : Nat) (A0 : Option Addr) (c0 : Nat) (l0 : List S62) (a1_0 a1_1 a2 : Int) (r1 : Bool) (r2 r3 : Int) (w : World) (hr0 : Kd.C k62 w A0 l0.length l0) (hc0 : l0.length ≤ c0)
    (he : runout_check.f l0 a1_0 a1_1 = some 0) (ht : runout_tolerance.f a2 = some true) (h : runout_Circular.go k l0 a1_0 a1_1 a2 l0.length = some (r1, r2, r3)) :
    Calls Try.prog 20 #[.slice A0 l0.length c0, .agg #[.int .i64 a1_0, .int .i64 a1_1], .int .i64 a2] w fun e w' => e = .returned (.tuple #[.bool r1, .int .i64 r2, .int .i64 r3]) ∧ Below w.heap.size w w' := by
  have HR := Aside0.mk hr0
  have HC := Aside0.mk hc0
  have HE := Aside0.mk he
  have HT := Aside0.mk ht
  have H := Aside0.mk h
  have hlen := hr0.2.1
  have HB0 := Aside0.mk (show Below w.heap.size w (w.alloc (.cells #[.int .i64 a1_0, .int .i64 a1_1] 25)) from (Below.refl _ _).alloc (Nat.le_refl _) _)
  clear hr0 hc0 he ht h
  go_enter Try.func20, Try.ntmps20
  go_wp2_with (first
    | (go_at_call 46; refine (runout_check.calls _ _ _ _ _ _ _ (Kd.C_below HR.out HB0.out) HC.out HE.out).mono ?_; rintro e w1 ⟨rfl, hb1⟩)
    | (go_at_call 42; refine (runout_tolerance.calls _ _ _ HT.out).mono ?_; rintro e w2 ⟨rfl, hd⟩; obtain ⟨⟨nd, rfl⟩⟩ := hd))
  have HB1 := Aside0.mk (pw_below_drewN hb1 nd)
  clear hb1
  have HB2 := Aside0.mk (show Below (w.heap.size + 1) (w.alloc (.cells #[.int .i64 a1_0, .int .i64 a1_1] 25)) (w1.drewN nd) from by have := HB1.out; simpa using this)
  clear HB1
  go_loopw [25] (fun v25 wr => ∃ i n : Nat, i + n = l0.length ∧ v25 = .int .i64 i ∧ Aside0 (runout_Circular.go k l0 a1_0 a1_1 a2 n = some (r1, r2, r3)) ∧ Aside0 (Below (w.heap.size + 1) (w.alloc (.cells #[.int .i64 a1_0, .int .i64 a1_1] 25)) wr)) (fun v25 _ => l0.length - (intOf v25).toNat)
  case atStart => exact ⟨0, l0.length, by omega, rfl, H, HB2⟩
  case round =>
    clear H HB2
    obtain ⟨i, n, hin, rfl, HG, HB⟩ := hrel
    have HBw := Aside0.mk (HB0.out.trans (HB.out.mono (by omega)))
    have hsz : w.heap.size + 1 ≤ wr.heap.size := by have := HB.out.size; simpa using this
    by_cases hlt : i < l0.length
    · obtain ⟨n, rfl⟩ : ∃ m, n = m + 1 := ⟨n - 1, by omega⟩
      have hg := HG.out
      simp only [runout_Circular.go] at hg
      rw [show l0.length - (n + 1) = i by omega] at hg
      obtain ⟨⟨b1, b2⟩, hb, hg⟩ := Option.bind_eq_some_iff.mp hg
      obtain ⟨q, hq, hg⟩ := Option.bind_eq_some_iff.mp hg
      have HRD := Aside0.mk hb
      have HNR := Aside0.mk hq
      have HG2 := Aside0.mk hg
      clear hb hq hg HG
      obtain ⟨ad, A1, c1, rfl, h1, h2, h3, h4⟩ := at_T62 (Kd.C_below HR.out HBw.out) i (by omega) (by omega)
      simp only [Int.toNat_natCast] at h1 h2
      have HBA := Aside0.mk (show Below wr.heap.size wr (wr.alloc (.cells #[.int .i64 (rd_T62 l0 i).f0, .slice A1 (rd_T62 l0 i).f1.length c1] 62)) from (Below.refl _ _).alloc (Nat.le_refl _) _)
      have hx1 : (wr.alloc (.cells #[.int .i64 (rd_T62 l0 i).f0, .slice A1 (rd_T62 l0 i).f1.length c1] 62)).cell? ⟨w.heap.size, 0, none⟩ = some (.int .i64 a1_0) :=
        (HBA.out.cell (p := ⟨w.heap.size, 0, none⟩) (by show w.heap.size < wr.heap.size; omega)).trans ((HB.out.cell (p := ⟨w.heap.size, 0, none⟩) (by show w.heap.size < w.heap.size + 1; omega)).trans ((blk_cell (heap_alloc_new w _) 0).trans rfl))
      have hx2 : (wr.alloc (.cells #[.int .i64 (rd_T62 l0 i).f0, .slice A1 (rd_T62 l0 i).f1.length c1] 62)).cell? ⟨w.heap.size, 1, none⟩ = some (.int .i64 a1_1) :=
        (HBA.out.cell (p := ⟨w.heap.size, 1, none⟩) (by show w.heap.size < wr.heap.size; omega)).trans ((HB.out.cell (p := ⟨w.heap.size, 1, none⟩) (by show w.heap.size < w.heap.size + 1; omega)).trans ((blk_cell (heap_alloc_new w _) 1).trans rfl))
      have HOS := Aside0.mk (one_slice _ A1 c1 _ h3 (Kd.C_below h4 HBA.out))
      have HCA := Aside0.mk (show Calls Try.prog 36 #[.agg #[.int .i64 a1_0, .int .i64 a1_1], .slice (some ⟨wr.heap.size + 1, 0, none⟩) 1 1] _ _ from by
        have := runout_radii.calls k a1_0 a1_1 _ 1 _ _ _ _ HOS.out (by simp) HRD.out
        simpa using this)
      clear h4 h3
      cases hq : q
      · subst hq
        have he := HG2.out
        rw [if_neg (by decide)] at he
        simp only [Option.some.injEq, Prod.mk.injEq] at he
        obtain ⟨rfl, rfl, rfl⟩ := he
        go_wp2_with (first
          | (go_at_call 36; ((with_reducible refine HCA.out.mono ?_); rintro e w3 ⟨rfl, hb3⟩))
          | (go_at_call 43; refine (runout_near.calls _ _ _ _ _ _ HNR.out).mono ?_; rintro e w4 ⟨rfl, hb4⟩))
        refine bodyPost_ret (v := .tuple #[.bool false, .int .i64 i, .int .i64 0]) (by simp [results, Try.f20, go_sem]) rfl ⟨rfl, ?_⟩
        have s3 := hb3.size
        simp only [World.size_alloc] at s3
        exact below_then (below_then ((HBw.out.alloc (by omega) _).alloc (by simp; omega) _) (by simp; omega) (by rw [World.size_alloc, World.size_alloc]; exact hb3)) (by omega) hb4
      · subst hq
        have he := HG2.out
        rw [if_pos rfl] at he
        have HG3 := Aside0.mk he
        clear he HG2
        go_wp2_with (first
          | (go_at_call 36; ((with_reducible refine HCA.out.mono ?_); rintro e w3 ⟨rfl, hb3⟩))
          | (go_at_call 43; refine (runout_near.calls _ _ _ _ _ _ HNR.out).mono ?_; rintro e w4 ⟨rfl, hb4⟩))
        go_roundw
        case rel =>
          have s3 := hb3.size
          simp only [World.size_alloc] at s3
          have s4 := hb4.size
          refine ⟨i + 1, n, by omega, by go_num, HG3, ⟨below_then (below_then ((HB.out.alloc (by simpa using hsz) _).alloc (by simp; omega) _) (by simp; omega) (by rw [World.size_alloc, World.size_alloc]; exact hb3)) (by omega) hb4⟩⟩
        case measure => simp [intOf]; omega
    · obtain rfl : n = 0 := by omega
      have he := HG.out
      simp only [runout_Circular.go, Option.some.injEq, Prod.mk.injEq] at he
      obtain ⟨rfl, rfl, rfl⟩ := he
      go_wp2
      refine bodyPost_ret (v := .tuple #[.bool true, .int .i64 l0.length, .int .i64 0]) (by simp [results, Try.f20, go_sem]) rfl ⟨rfl, HBw.out⟩
set_option maxHeartbeats 8000000 in
set_option maxRecDepth 100000 in
theorem runout_Circular.calls (k : Nat) (A0 : Option Addr) (c0 : Nat) (l0 : List S62) (a1_0 a1_1 a2 : Int) (r1 : Bool) (r2 r3 : Int) (w : World) (hr0 : Kd.C k62 w A0 l0.length l0) (hc0 : l0.length ≤ c0)
    (h : runout_Circular.f k l0 a1_0 a1_1 a2 = some (r1, r2, r3)) :
    Calls Try.prog 20 #[.slice A0 l0.length c0, .agg #[.int .i64 a1_0, .int .i64 a1_1], .int .i64 a2] w fun e w' => e = .returned (.tuple #[.bool r1, .int .i64 r2, .int .i64 r3]) ∧ Below w.heap.size w w' := by
  obtain ⟨e, he, h⟩ := Option.bind_eq_some_iff.mp h
  have HR := Aside0.mk hr0
  have HC := Aside0.mk hc0
  have HB0 := Aside0.mk (show Below w.heap.size w (w.alloc (.cells #[.int .i64 a1_0, .int .i64 a1_1] 25)) from (Below.refl _ _).alloc (Nat.le_refl _) _)
  by_cases h0 : e = 0
  · subst h0
    rw [if_pos rfl] at h
    obtain ⟨b, hb, h⟩ := Option.bind_eq_some_iff.mp h
    cases b
    · rw [if_neg (by decide)] at h
      simp only [Option.some.injEq, Prod.mk.injEq] at h
      obtain ⟨rfl, rfl, rfl⟩ := h
      have HE := Aside0.mk he
      have HT := Aside0.mk hb
      clear he hb hr0 hc0
      go_enter Try.func20, Try.ntmps20
      go_wp2_with (first
        | (go_at_call 46; refine (runout_check.calls _ _ _ _ _ _ _ (Kd.C_below HR.out HB0.out) HC.out HE.out).mono ?_; rintro e w1 ⟨rfl, hb1⟩)
        | (go_at_call 42; refine (runout_tolerance.calls _ _ _ HT.out).mono ?_; rintro e w2 ⟨rfl, hd⟩; obtain ⟨⟨nd, rfl⟩⟩ := hd))
      refine bodyPost_ret (v := .tuple #[.bool false, .int .i64 0, .int .i64 2]) (by simp [results, Try.f20, go_sem]) rfl ⟨rfl, ?_⟩
      exact pw_below_drewN (below_then HB0.out (by simp) hb1) _
    · rw [if_pos rfl] at h
      exact circ_loop k A0 c0 l0 a1_0 a1_1 a2 r1 r2 r3 w hr0 hc0 he hb h
  · rw [if_neg h0] at h
    simp only [Option.some.injEq, Prod.mk.injEq] at h
    obtain ⟨rfl, rfl, rfl⟩ := h
    have HE := Aside0.mk he
    have g1 : (e != 0) = true := by simp [h0]
    have g2 : (e == 0) = false := by simp [h0]
    clear he h0 hr0 hc0
    go_enter Try.func20, Try.ntmps20
    go_wp2_with (go_at_call 46; refine (runout_check.calls _ _ _ _ _ _ _ (Kd.C_below HR.out HB0.out) HC.out HE.out).mono ?_; rintro e w1 ⟨rfl, hb1⟩)
    refine bodyPost_ret (v := .tuple #[.bool false, .int .i64 0, .int .i64 e]) (by simp [results, Try.f20, go_sem]) rfl ⟨rfl, below_then HB0.out (by simp) hb1⟩

/-! ### runout_ends: function 49 -/
def runout_ends.l0 : Nat → List (List (S25)) → List (S62) → Int → Int → Int → Int → Option (Int × Int)
  | 0, _, _, _, _, _, _ => none
  | k + 1, x6, x9, x10, x11, x147000, x147001 => if x11 < x10 then (if 0 ≤ x11 then (if x11 < (x9.length : Int) then (if x6.length < 5864062014805 then (runout_ends.l0 k (x6 ++ [(rd_T62 x9 x11).f1]) x9 x10 (wrap64 (x11 + 1)) x147000 x147001) else (none)) else (none)) else (none)) else ((runout_radii.f k x147000 x147001 x6).bind fun bt152 => (some (bt152.1, bt152.2)))
def runout_ends.f (k : Nat) (l0 : List (S62)) (a1_0 : Int) (a1_1 : Int) : Option (Int × Int) := runout_ends.l0 k ([] : List (List (S25))) l0 (l0.length : Int) 0 a1_0 a1_1
theorem runout_ends.mono_l : ∀ k, (∀ y0 y1 y2 y3 y4 y5, LeO (runout_ends.l0 k y0 y1 y2 y3 y4 y5) (runout_ends.l0 (k + 1) y0 y1 y2 y3 y4 y5))
  | 0 => fun _ _ _ _ _ _ r h => by simp [runout_ends.l0] at h
  | k + 1 => by
    have ih0 := runout_ends.mono_l k
    · intro y0 y1 y2 y3 y4 y5
      unfold runout_ends.l0
      repeat' first
      | (with_reducible exact ih0 _ _ _ _ _ _)
      | (with_reducible exact runout_radii.mono _ _ _ _)
      | (with_reducible exact LeO.refl _)
      | (with_reducible exact LeO.none _)
      | (with_reducible refine LeO.ite ?_ ?_)
      | (with_reducible refine LeO.bind ?_ (fun _ => ?_))
      | exact ih0 _ _ _ _ _ _
      | exact runout_radii.mono _ _ _ _
      | exact LeO.none _
      | refine LeO.ite ?_ ?_
      | refine LeO.bind ?_ (fun _ => ?_)
theorem runout_ends.mono : ∀ a0 a1 a2 k, LeO (runout_ends.f k a0 a1 a2) (runout_ends.f (k + 1) a0 a1 a2) := by
  intro a0 a1 a2 k
  have ih0 := runout_ends.mono_l k
  unfold runout_ends.f
  repeat' first
      | (with_reducible exact ih0 _ _ _ _ _ _)
      | (with_reducible exact runout_radii.mono _ _ _ _)
      | (with_reducible exact LeO.refl _)
      | (with_reducible exact LeO.none _)
      | (with_reducible refine LeO.ite ?_ ?_)
      | (with_reducible refine LeO.bind ?_ (fun _ => ?_))
      | exact ih0 _ _ _ _ _ _
      | exact runout_radii.mono _ _ _ _
      | exact LeO.none _
      | refine LeO.ite ?_ ?_
      | refine LeO.bind ?_ (fun _ => ?_)
set_option maxHeartbeats 8000000 in
set_option maxRecDepth 100000 in
theorem runout_ends.calls (k : Nat) (P0_ : Nat → Prop) (A0 : Option Addr) (c0 : Nat) (l0 : List (S62)) (a1_0 : Int) (a1_1 : Int) (r1 : Int) (r2 : Int) (w : World) (hs0 : Kd.V k62 62 w w.heap.size (fun k_ => P0_ k_) (.slice A0 l0.length c0) l0) (h : runout_ends.f k l0 a1_0 a1_1 = some (r1, r2)) :
    Calls Try.prog 49 #[.slice A0 l0.length c0, .agg #[.int .i64 a1_0, .int .i64 a1_1]] w fun e w' => e = .returned (.tuple #[.int .i64 r1, .int .i64 r2]) ∧ Below w.heap.size w w' := by
  have hu25 := Try.underlying25
  have hu62 := Try.underlying62
  have HO0 := Aside0.mk (show Kd.V k62 62 w w.heap.size (fun k_ => (P0_ k_ ∨ w.heap.size ≤ k_)) (.slice A0 l0.length c0) l0 from Kd.V_mono hs0 (fun k_ hk => .inl hk))
  have HB := Aside0.mk (Below.refl w.heap.size w)
  have H : (runout_ends.l0 k ([] : List (List (S25))) l0 (l0.length : Int) 0 a1_0 a1_1) = some (r1, r2) := h
  clear h
  have H' := Aside0.mk H
  clear H
  go_enter Try.func49, Try.ntmps49
  go_wp2_with (first | ((with_reducible refine gate_dst (N := 3) rfl ?_); refine box_event ?hg (N := 3) ?hd (cs := #[.int .i64 a1_0, .int .i64 a1_1]) (t := 25) ?hr ?_; (case hd => rfl); (case hg => rfl); (case hr => first | (go_simp; done) | (go_simp; rfl)); intro gb146 hg w3 hbox hb; have n0_ := Aside0.mk (Kd.V_below (Kd.V_elderB (by (with_reducible repeat (first | apply Kd.V_alloc | apply Kd.V_drewN | apply Kd.V_drew)); exact HO0.out) gb146 (Nat.le_of_eq hg.symm)) hb); have n1_ := Aside0.mk (below_step (by repeat (first | (with_reducible first | exact HB.out | apply below_alloc | apply pw_below_drewN | apply below_drew1) | exact HB.out)) hb); have n2_ := Aside0.mk (hbox); have n3_ := Aside0.mk ((by rw [hg]; exact (below_size (by repeat (first | (with_reducible first | exact HB.out | apply below_alloc | apply pw_below_drewN | apply below_drew1) | exact HB.out))) : w.heap.size ≤ gb146)); have n4_ := Aside0.mk ((by rw [hg]; exact (below_size (by repeat (first | (with_reducible first | exact HB.out | apply below_alloc | apply pw_below_drewN | apply below_drew1) | exact HB.out))) : w.heap.size ≤ gb146)); clear HO0; clear HB; have HO0 := n0_; have HB := n1_; have BK146 := n2_; have GW146 := n3_; have GE146 := n4_; clear n0_ n1_ n2_ n3_ n4_; clear hb hbox hg))
  go_loopg [6, 11] k (fun kq v6 v11 w' => ∃ (x6_1 : List (List (S25))) (x11_1 : Int), v11 = .int .i64 x11_1 ∧ Aside0 (runout_ends.l0 kq x6_1 l0 (l0.length : Int) x11_1 a1_0 a1_1 = some (r1, r2)) ∧ Aside0 (kq ≤ k) ∧ Aside0 (Kd.N (Kd.slice 25 k25) 23 w' w.heap.size (fun k_ => (P0_ k_ ∨ w.heap.size ≤ k_) ∧ k_ ≠ gb146) v6 x6_1) ∧ Aside0 (Kd.V k62 62 w' w.heap.size (fun k_ => (P0_ k_ ∨ w.heap.size ≤ k_) ∧ some k_ ≠ (v6 : Value).ownBlock ∧ k_ ≠ gb146) (.slice A0 l0.length c0) l0) ∧ Aside0 (w'.heap[gb146]? = some (.cells #[.int .i64 a1_0, .int .i64 a1_1] 25 (0, 0))) ∧ Aside0 (Below w.heap.size w w'))
  case atStart => exact ⟨(([] : List (List (S25)))), (0), (by first | rfl | (simp; done) | (simp [*]; done)), H', ⟨Nat.le_refl _⟩, ⟨by first | exact Kd.S_nil _ _ _ _ _ | exact Kd.N_nil _ _ _ _ _ | exact Kd.V_nil _ _ _ _ _ | exact Kd.Q_nil _ _ _ _ _ | exact Kd.R_nil _ _ _ _ _⟩, ⟨by (with_reducible repeat (first | apply Kd.V_alloc | apply Kd.V_drewN | apply Kd.V_drew)); exact Kd.V_mono HO0.out (fun _ hk => ⟨hk.1, ⟨(by simp [Value.ownBlock]), hk.2⟩⟩)⟩, ⟨by (with_reducible repeat (first | refine blk_drewN ?_ _ | refine blk_drew ?_ | refine blk_alloc ?_ _)); exact BK146.out⟩, ⟨by repeat (first | (with_reducible first | exact HB.out | apply below_alloc | apply pw_below_drewN | apply below_drew1 | refine below_set ?_ GE146.out) | exact HB.out)⟩⟩
  case round =>
    clear H'
    try clear p2
    obtain ⟨x6_1, x11_1, rfl, HA, HK1, HO_6, HO_9, BK146, HB⟩ := hrel
    cases gk with
    | zero => exact absurd HA.out (by simp [runout_ends.l0])
    | succ k1 =>
      have H := HA.out
      clear HA
      simp only [runout_ends.l0] at H
      by_cases c4 : x11_1 < (l0.length : Int)
      · rw [if_pos c4] at H
        have c4b0 : decide (x11_1 < (l0.length : Int)) = true := decide_eq_true c4
        clear c4
        by_cases c5 : 0 ≤ x11_1
        · rw [if_pos c5] at H
          have c5b0 : decide (0 ≤ x11_1) = true := decide_eq_true c5
          clear c5
          by_cases c6 : x11_1 < (l0.length : Int)
          · rw [if_pos c6] at H
            have c6b0 : decide (x11_1 < (l0.length : Int)) = true := decide_eq_true c6
            clear c6
            by_cases c7 : x6_1.length < 5864062014805
            · rw [if_pos c7] at H
              have LMc7 := Aside0.mk c7
              clear c7
              obtain ⟨y149, hy149⟩ : ∃ y_ : List (List (S25)), y_ = (x6_1 ++ [(rd_T62 l0 x11_1).f1]) := ⟨_, rfl⟩
              replace H : (runout_ends.l0 k1 y149 l0 (l0.length : Int) (wrap64 (x11_1 + 1)) a1_0 a1_1) = some (r1, r2) := by first | (rw [hy149]; with_reducible exact H) | (have H2_ := (Option.bind_some _ _).symm.trans H; rw [hy149]; with_reducible exact H2_) | (have H2_ := (Option.bind_some _ _).symm.trans H; with_reducible exact H2_) | with_reducible exact H | (rw [hy149]; exact H) | exact H
              have Ny149 := Aside0.mk hy149
              clear hy149
              have H' := Aside0.mk H
              clear H
              have p147 : 0 ≤ (x11_1 : Int) := of_decide_eq_true (by first | (with_reducible assumption) | assumption)
              have q147 : x11_1 < (l0.length : Int) := of_decide_eq_true (by first | (with_reducible assumption) | assumption)
              obtain ⟨ad147, A147_1, c147_1, e147, hx147_0, hx147_1, hl147_1, hi147_1⟩ := at_T62 (Kd.V_reads' HO_9.out).2.2 x11_1 p147 q147
              cases e147
              obtain ⟨ce147, hce147, hMe147, hcc147⟩ := Kd.V_get HO_9.out z62 x11_1 p147 (by first | exact q147 | exact of_decide_eq_true (by first | (with_reducible assumption) | assumption) | (have e_ := (Kd.V_reads' HO_9.out).1; omega))
              obtain ⟨ua147_1, uc147_1, rfl, ul147_1, ge147_1⟩ := k62_openF hMe147
              have hv147_1 := hcc147 1 _ rfl
              rw [add_field _ _ 1 (by omega)] at hv147_1
              replace hv147_1 := Option.some.inj (hv147_1.symm.trans hx147_1)
              injection hv147_1 with hva_ hvn_ hvc_
              rw [hva_] at ge147_1
              rw [hvc_] at ul147_1
              have HL147_1 := Aside0.mk (show Kd.V k25 25 _ w.heap.size _ _ ((rd_T62 l0 x11_1).f1) from Kd.V_mk ul147_1 ge147_1)
              clear hva_ hvn_ hvc_ ge147_1 ul147_1
              clear hcc147 hce147
              have HR147_1 := Aside0.mk hi147_1
              have HC147_1 := Aside0.mk hl147_1
              clear hi147_1 hl147_1
              replace p147 := eq_true p147
              replace q147 := eq_true q147
              go_wp2_with (first | ((with_reducible refine gate_dst (N := 8) rfl ?_); refine box_event ?hg (N := 8) ?hd (cs := #[.int .i64 0, .slice none 0 0]) (t := 62) ?hr ?_; (case hd => rfl); (case hg => rfl); (case hr => first | (go_simp; done) | (go_simp; rfl)); intro gb148 hg w8 hbox hb; have n0_ := Aside0.mk (Kd.N_below (Kd.N_elderB (by (with_reducible repeat (first | apply Kd.N_alloc | apply Kd.N_drewN | apply Kd.N_drew)); exact HO_6.out) gb148 (Nat.le_of_eq hg.symm)) hb); have n1_ := Aside0.mk (Kd.V_below (Kd.V_elderB (by (with_reducible repeat (first | apply Kd.V_alloc | apply Kd.V_drewN | apply Kd.V_drew)); exact HO_9.out) gb148 (Nat.le_of_eq hg.symm)) hb); have n2_ := Aside0.mk (Kd.V_below (Kd.V_elderB (by (with_reducible repeat (first | apply Kd.V_alloc | apply Kd.V_drewN | apply Kd.V_drew)); exact HL147_1.out) gb148 (Nat.le_of_eq hg.symm)) hb); have n3_ := Aside0.mk (blk_below (g := gb146) (o := .cells #[.int .i64 a1_0, .int .i64 a1_1] 25 (0, 0)) (by (with_reducible repeat (first | refine blk_drewN ?_ _ | refine blk_drew ?_ | refine blk_alloc ?_ _)); exact BK146.out) hb); have n4_ := Aside0.mk (Kd.C_below (by repeat (first | (with_reducible exact HR147_1.out) | (with_reducible refine Kd.C_alloc ?_ _) | (with_reducible refine Kd.C_drewN ?_ _) | (with_reducible refine Kd.C_drew ?_) | exact HR147_1.out)) hb); have n5_ := Aside0.mk (below_step (by repeat (first | (with_reducible first | exact HB.out | apply below_alloc | apply pw_below_drewN | apply below_drew1 | refine below_set ?_ GE146.out) | exact HB.out)) hb); have n6_ := Aside0.mk (hbox); have n7_ := Aside0.mk ((by rw [hg]; exact (below_size (by repeat (first | (with_reducible first | exact HB.out | apply below_alloc | apply pw_below_drewN | apply below_drew1 | refine below_set ?_ GE146.out) | exact HB.out))) : w.heap.size ≤ gb148)); have n8_ := Aside0.mk ((by rw [hg]; exact (below_size (by repeat (first | (with_reducible first | exact HB.out | apply below_alloc | apply pw_below_drewN | apply below_drew1 | refine below_set ?_ GE146.out) | exact HB.out))) : w.heap.size ≤ gb148)); have n9_ := Aside0.mk ((by rw [hg]; exact Nat.ne_of_lt (blk_lt (g := gb146) (o := .cells #[.int .i64 a1_0, .int .i64 a1_1] 25 (0, 0)) (by (with_reducible repeat (first | refine blk_drewN ?_ _ | refine blk_drew ?_ | refine blk_alloc ?_ _)); exact BK146.out)) : gb146 ≠ gb148)); have n10_ := Aside0.mk ((by rw [hg]; exact Nat.ne_of_gt (blk_lt (g := gb146) (o := .cells #[.int .i64 a1_0, .int .i64 a1_1] 25 (0, 0)) (by (with_reducible repeat (first | refine blk_drewN ?_ _ | refine blk_drew ?_ | refine blk_alloc ?_ _)); exact BK146.out)) : gb148 ≠ gb146)); clear HO_6; clear HO_9; clear HL147_1; clear BK146; clear HR147_1; clear HB; have HO_6 := n0_; have HO_9 := n1_; have HL147_1 := n2_; have BK146 := n3_; have HR147_1 := n4_; have HB := n5_; have BK148 := n6_; have GW148 := n7_; have GE148 := n8_; have NB146_148 := n9_; have NB148_146 := n10_; clear n0_ n1_ n2_ n3_ n4_ n5_ n6_ n7_ n8_ n9_ n10_; clear hb hbox hg; have hnb9 := NB148_146.out; have hnc9 := NB146_148.out; have hcz10_0 : w8.cell? ⟨gb148, 0, none⟩ = some (.int .i64 0) := (blk_cell BK148.out 0).trans rfl; have hcz10_1 : w8.cell? ⟨gb148, 1, none⟩ = some (.slice none 0 0) := (blk_cell BK148.out 1).trans rfl; have hfz10_0 := blk_frozen BK148.out 0; have hfz10_1 := blk_frozen BK148.out 1) | ((with_reducible refine gate_store (t := 62) (p := 8) rfl ?_); refine store_event (t := 62) (p := 8) (v := ?vo_w11) (w1 := ((w8.setCell ⟨gb148, 0, none⟩ (.int .i64 ((rd_T62 l0 x11_1).f0))).setCell ⟨gb148, 1, none⟩ (.slice A147_1 ((rd_T62 l0 x11_1).f1).length c147_1))) ?hg ?ho ?hn ?hr ?_; (case ho => rfl); (case hg => rfl); (case hn => rfl); (case hr => first | (go_simp; done) | (go_simp; rfl)); intro w11 hw; have n0_ : Aside0 (Kd.N (Kd.slice 25 k25) 23 w11 w.heap.size (fun k_ => (P0_ k_ ∨ w.heap.size ≤ k_) ∧ k_ ≠ gb146 ∧ k_ ≠ gb148) u6 x6_1) := ⟨(by rw [hw]; exact (by (with_reducible repeat (first | apply Kd.N_alloc | apply Kd.N_drewN | apply Kd.N_drew)); exact Kd.N_mono (Kd.N_far (p := ⟨gb148, 1, none⟩) (Kd.N_far (p := ⟨gb148, 0, none⟩) (Kd.N_mono HO_6.out (fun k_ hk => (⟨hk, hk.2⟩ : _ ∧ k_ ≠ gb148))) (fun _ hk => hk.2) (.int .i64 ((rd_T62 l0 x11_1).f0))) (fun _ hk => hk.2) (.slice A147_1 ((rd_T62 l0 x11_1).f1).length c147_1)) (fun _ hk => ⟨hk.1.1.1, ⟨hk.1.1.2, hk.1.2⟩⟩)))⟩; have n1_ : Aside0 (Kd.V k62 62 w11 w.heap.size (fun k_ => (P0_ k_ ∨ w.heap.size ≤ k_) ∧ some k_ ≠ (u6 : Value).ownBlock ∧ k_ ≠ gb146 ∧ k_ ≠ gb148) (.slice (some ad147) l0.length c0) l0) := ⟨(by rw [hw]; exact (by (with_reducible repeat (first | apply Kd.V_alloc | apply Kd.V_drewN | apply Kd.V_drew)); exact Kd.V_mono (Kd.V_far (p := ⟨gb148, 1, none⟩) (Kd.V_far (p := ⟨gb148, 0, none⟩) (Kd.V_mono HO_9.out (fun k_ hk => (⟨hk, hk.2⟩ : _ ∧ k_ ≠ gb148))) (fun _ hk => hk.2) (.int .i64 ((rd_T62 l0 x11_1).f0))) (fun _ hk => hk.2) (.slice A147_1 ((rd_T62 l0 x11_1).f1).length c147_1)) (fun _ hk => ⟨hk.1.1.1, ⟨hk.1.1.2.1, ⟨hk.1.1.2.2, hk.1.2⟩⟩⟩)))⟩; have n2_ : Aside0 (Kd.V k25 25 w11 w.heap.size (fun k_ => (P0_ k_ ∨ w.heap.size ≤ k_) ∧ some k_ ≠ (u6 : Value).ownBlock ∧ k_ ≠ gb146 ∧ k_ ≠ gb148) (.slice A147_1 ((rd_T62 l0 x11_1).f1).length c147_1) ((rd_T62 l0 x11_1).f1)) := ⟨(by rw [hw]; exact (by (with_reducible repeat (first | apply Kd.V_alloc | apply Kd.V_drewN | apply Kd.V_drew)); exact Kd.V_mono (Kd.V_far (p := ⟨gb148, 1, none⟩) (Kd.V_far (p := ⟨gb148, 0, none⟩) (Kd.V_mono HL147_1.out (fun k_ hk => (⟨hk, hk.2⟩ : _ ∧ k_ ≠ gb148))) (fun _ hk => hk.2) (.int .i64 ((rd_T62 l0 x11_1).f0))) (fun _ hk => hk.2) (.slice A147_1 ((rd_T62 l0 x11_1).f1).length c147_1)) (fun _ hk => ⟨hk.1.1.1, ⟨hk.1.1.2.1, ⟨hk.1.1.2.2, hk.1.2⟩⟩⟩)))⟩; have n3_ : Aside0 (w11.heap[gb146]? = some (.cells #[.int .i64 a1_0, .int .i64 a1_1] 25 (0, 0))) := ⟨(by rw [hw]; exact (by (with_reducible repeat (first | refine blk_drewN ?_ _ | refine blk_drew ?_ | refine blk_alloc ?_ _)); refine blk_far ?_ NB146_148.out _; (with_reducible repeat (first | refine blk_drewN ?_ _ | refine blk_drew ?_ | refine blk_alloc ?_ _)); refine blk_far ?_ NB146_148.out _; (with_reducible repeat (first | refine blk_drewN ?_ _ | refine blk_drew ?_ | refine blk_alloc ?_ _)); exact BK146.out))⟩; have n4_ : Aside0 (w11.heap[gb148]? = some (.cells #[.int .i64 ((rd_T62 l0 x11_1).f0), .slice A147_1 ((rd_T62 l0 x11_1).f1).length c147_1] 62 (0, 0))) := ⟨(by rw [hw]; exact (by (with_reducible repeat (first | refine blk_drewN ?_ _ | refine blk_drew ?_ | refine blk_alloc ?_ _)); refine blk_put (cs := #[.int .i64 ((rd_T62 l0 x11_1).f0), .slice none 0 0]) ?_ 1 _ rfl; (with_reducible repeat (first | refine blk_drewN ?_ _ | refine blk_drew ?_ | refine blk_alloc ?_ _)); refine blk_put (cs := #[.int .i64 0, .slice none 0 0]) ?_ 0 _ rfl; (with_reducible repeat (first | refine blk_drewN ?_ _ | refine blk_drew ?_ | refine blk_alloc ?_ _)); exact BK148.out))⟩; have n5_ : Aside0 (Below w.heap.size w w11) := ⟨(by rw [hw]; exact (by repeat (first | (with_reducible first | exact HB.out | apply below_alloc | apply pw_below_drewN | apply below_drew1 | refine below_set ?_ GE146.out | refine below_set ?_ GE148.out) | exact HB.out)))⟩; clear hw; clear HO_6; clear HO_9; clear HL147_1; clear BK146; clear BK148; clear HB; have HO_6 := n0_; have HO_9 := n1_; have HL147_1 := n2_; have BK146 := n3_; have BK148 := n4_; have HB := n5_; clear n0_ n1_ n2_ n3_ n4_ n5_; have hcz12_0 : w11.cell? ⟨gb148, 0, none⟩ = some (.int .i64 ((rd_T62 l0 x11_1).f0)) := (blk_cell BK148.out 0).trans rfl; have hcz12_1 : w11.cell? ⟨gb148, 1, none⟩ = some (.slice A147_1 ((rd_T62 l0 x11_1).f1).length c147_1) := (blk_cell BK148.out 1).trans rfl; have hfz12_0 := blk_frozen BK148.out 0; have hfz12_1 := blk_frozen BK148.out 1) | ((with_reducible refine gate_builtin (b := .append) (xs := #[.tmp 15, .tmp 18]) rfl ?_); at_builtin; refine Kd.N_append (Kd.slice 25 k25) (w0 := w) w.heap.size rfl (.tmp 15) (.tmp 18) 95 23 (.slice none 0 0) 24 rfl Try.underlying95 info23 rfl (by decide) (by omega) u6 x6_1 ((rd_T62 l0 x11_1).f1) [.slice A147_1 ((rd_T62 l0 x11_1).f1).length c147_1] (fun k_ => (P0_ k_ ∨ w.heap.size ≤ k_) ∧ k_ ≠ gb146 ∧ k_ ≠ gb148) (fun k_ => ((fun k_ => (P0_ k_ ∨ w.heap.size ≤ k_) ∧ k_ ≠ gb146 ∧ k_ ≠ gb148)) k_ ∧ some k_ ≠ (u6 : Value).ownBlock) rfl rfl ?aP (fun _ hk => hk) ?aF ?aO ?aB ?aS ?aL ?_; (case aP => exact (Kd.FK_slice_mk (Kd.V_reads' (Kd.V_mono (ok' := (fun k_ => ((fun k_ => (P0_ k_ ∨ w.heap.size ≤ k_) ∧ k_ ≠ gb146 ∧ k_ ≠ gb148)) k_ ∧ some k_ ≠ (u6 : Value).ownBlock)) (HL147_1.out) (fun k_ hk => ⟨⟨hk.1, ⟨hk.2.2.1, hk.2.2.2⟩⟩, hk.2.1⟩))).2.1 (Kd.V_F (Kd.V_mono (ok' := (fun k_ => ((fun k_ => (P0_ k_ ∨ w.heap.size ≤ k_) ∧ k_ ≠ gb146 ∧ k_ ≠ gb148)) k_ ∧ some k_ ≠ (u6 : Value).ownBlock)) (HL147_1.out) (fun k_ hk => ⟨⟨hk.1, ⟨hk.2.2.1, hk.2.2.2⟩⟩, hk.2.1⟩))))); (case aB => exact (by repeat (first | (with_reducible first | exact HB.out | apply below_alloc | apply pw_below_drewN | apply below_drew1 | refine below_set ?_ GE146.out | refine below_set ?_ GE148.out) | exact HB.out))); (case aF => exact (fun k_ hk => ⟨(.inr (Nat.le_trans (below_size (by repeat (first | (with_reducible first | exact HB.out | apply below_alloc | apply pw_below_drewN | apply below_drew1 | refine below_set ?_ GE146.out | refine below_set ?_ GE148.out) | exact HB.out))) hk)), Kd.freshB (g := gb146) (o := .cells #[.int .i64 a1_0, .int .i64 a1_1] 25 (0, 0)) (by (with_reducible repeat (first | refine blk_drewN ?_ _ | refine blk_drew ?_ | refine blk_alloc ?_ _)); exact BK146.out) k_ hk, Kd.freshB (g := gb148) (o := .cells #[.int .i64 ((rd_T62 l0 x11_1).f0), .slice A147_1 ((rd_T62 l0 x11_1).f1).length c147_1] 62 (0, 0)) (by (with_reducible repeat (first | refine blk_drewN ?_ _ | refine blk_drew ?_ | refine blk_alloc ?_ _)); exact BK148.out) k_ hk⟩)); (case aO => exact (by (with_reducible repeat (first | apply Kd.N_alloc | apply Kd.N_drewN | apply Kd.N_drew)); exact HO_6.out)); (case aS => exact (below_size (by repeat (first | (with_reducible first | exact HB.out | apply below_alloc | apply pw_below_drewN | apply below_drew1 | refine below_set ?_ GE146.out | refine below_set ?_ GE148.out) | exact HB.out)))); (case aL => have := LMc7.out; omega); intro v150 w13 ho hb hg hat; rw [← Ny149.out] at ho; have n0_ := Aside0.mk (Kd.V_afterv (ok := (fun k_ => (P0_ k_ ∨ w.heap.size ≤ k_) ∧ k_ ≠ gb146 ∧ k_ ≠ gb148)) (by (with_reducible repeat (first | apply Kd.V_alloc | apply Kd.V_drewN | apply Kd.V_drew)); exact Kd.V_mono HO_9.out (fun _ hk => ⟨⟨hk.1, ⟨hk.2.2.1, hk.2.2.2⟩⟩, hk.2.1⟩)) hg hat); have n1_ := Aside0.mk (blk_grown (g := gb146) (o := .cells #[.int .i64 a1_0, .int .i64 a1_1] 25 (0, 0)) (by (with_reducible repeat (first | refine blk_drewN ?_ _ | refine blk_drew ?_ | refine blk_alloc ?_ _)); exact BK146.out) hg (Kd.N_ne HO_6.out BK146.out (by decide))); have n2_ := Aside0.mk (Kd.V_afterv (ok := (fun k_ => (P0_ k_ ∨ w.heap.size ≤ k_) ∧ k_ ≠ gb146 ∧ k_ ≠ gb148)) (by (with_reducible repeat (first | apply Kd.V_alloc | apply Kd.V_drewN | apply Kd.V_drew)); exact Kd.V_mono HL147_1.out (fun _ hk => ⟨⟨hk.1, ⟨hk.2.2.1, hk.2.2.2⟩⟩, hk.2.1⟩)) hg hat); have n3_ := Aside0.mk (blk_grown (g := gb148) (o := .cells #[.int .i64 ((rd_T62 l0 x11_1).f0), .slice A147_1 ((rd_T62 l0 x11_1).f1).length c147_1] 62 (0, 0)) (by (with_reducible repeat (first | refine blk_drewN ?_ _ | refine blk_drew ?_ | refine blk_alloc ?_ _)); exact BK148.out) hg (Kd.N_ne HO_6.out BK148.out (by decide))); have n4_ := Aside0.mk (hb); have n5_ := Aside0.mk (ho); clear HO_9; clear BK146; clear HL147_1; clear BK148; clear HB; clear HO_6; have HO_9 := n0_; have BK146 := n1_; have HL147_1 := n2_; have BK148 := n3_; have HB := n4_; have HO151 := n5_; clear n0_ n1_ n2_ n3_ n4_ n5_; clear ho hb hg hat))
              go_roundg k1
              case measure => have := HK1.out; omega
              case rel => exact ⟨(y149), (wrap64 (x11_1 + 1)), (by first | rfl | (simp; done) | (simp [*]; done)), H', ⟨by have := HK1.out; omega⟩, ⟨by (with_reducible repeat (first | apply Kd.N_alloc | apply Kd.N_drewN | apply Kd.N_drew)); exact Kd.N_mono HO151.out (fun _ hk => ⟨hk.1, hk.2.1⟩)⟩, ⟨by (with_reducible repeat (first | apply Kd.V_alloc | apply Kd.V_drewN | apply Kd.V_drew)); exact Kd.V_mono HO_9.out (fun _ hk => ⟨hk.1.1, ⟨hk.2, hk.1.2.1⟩⟩)⟩, ⟨by (with_reducible repeat (first | refine blk_drewN ?_ _ | refine blk_drew ?_ | refine blk_alloc ?_ _)); exact BK146.out⟩, ⟨by repeat (first | (with_reducible first | exact HB.out | apply below_alloc | apply pw_below_drewN | apply below_drew1 | refine below_set ?_ GE146.out | refine below_set ?_ GE148.out) | exact HB.out)⟩⟩
            · rw [if_neg c7] at H
              exact absurd H (by simp)
          · rw [if_neg c6] at H
            exact absurd H (by simp)
        · rw [if_neg c5] at H
          exact absurd H (by simp)
      · rw [if_neg c4] at H
        have c4b0 : decide (x11_1 < (l0.length : Int)) = false := decide_eq_false c4
        clear c4
        replace H := Option.bind_eq_some_iff.mp H
        obtain ⟨⟨t152, t153⟩, A140, H⟩ := H
        replace H : (some (t152, t153)) = some (r1, r2) := H
        have A14 := Aside0.mk A140
        clear A140
        simp only [Option.some.injEq, Prod.mk.injEq] at H
        obtain ⟨rfl, rfl⟩ := H
        have hcz15_0 : wr.cell? ⟨gb146, 0, none⟩ = some (.int .i64 a1_0) := (blk_cell BK146.out 0).trans rfl
        have hcz15_1 : wr.cell? ⟨gb146, 1, none⟩ = some (.int .i64 a1_1) := (blk_cell BK146.out 1).trans rfl
        have hfz15_0 := blk_frozen BK146.out 0
        have hfz15_1 := blk_frozen BK146.out 1
        obtain ⟨Ao16, co16, eo16⟩ := Kd.N_slice HO_6.out
        subst eo16
        go_wp2_with (first | ((with_reducible refine gate_callee (f := 36) rfl ?_); refine goesL_ (some 23) rfl rfl Try.func36 (by kernel_rfl) rfl #[.agg #[.int .i64 a1_0, .int .i64 a1_1], .slice Ao16 x6_1.length co16] rfl (by (try simp only [List.map_toArray, List.map_cons, List.map_nil]); first | done | rfl | (simp only [List.length_drop, List.length_take]; rfl)) ?_; (with_reducible refine (runout_radii.calls k1 a1_0 a1_1 _ _ x6_1 t152 t153 _ ?side1 ?side2 A14.out).mono ?_); (case side1 => repeat (first | exact (Kd.N_reads' HO_6.out).2.2 | (with_reducible refine Kd.C_alloc ?_ _) | (with_reducible refine Kd.C_drewN ?_ _) | (with_reducible refine Kd.C_drew ?_))); (case side2 => exact (Kd.N_reads' HO_6.out).2.1); rintro e w17 ⟨rfl, hb⟩; refine ⟨_, rfl, ?_⟩; have n0_ := Aside0.mk (Kd.N_below (by (with_reducible repeat (first | apply Kd.N_alloc | apply Kd.N_drewN | apply Kd.N_drew)); exact HO_6.out) hb); have n1_ := Aside0.mk (Kd.V_below (by (with_reducible repeat (first | apply Kd.V_alloc | apply Kd.V_drewN | apply Kd.V_drew)); exact HO_9.out) hb); have n2_ := Aside0.mk (blk_below (g := gb146) (o := .cells #[.int .i64 a1_0, .int .i64 a1_1] 25 (0, 0)) (by (with_reducible repeat (first | refine blk_drewN ?_ _ | refine blk_drew ?_ | refine blk_alloc ?_ _)); exact BK146.out) hb); have n3_ := Aside0.mk (below_step (by repeat (first | (with_reducible first | exact HB.out | apply below_alloc | apply pw_below_drewN | apply below_drew1 | refine below_set ?_ GE146.out) | exact HB.out)) hb); clear HO_6; clear HO_9; clear BK146; clear HB; have HO_6 := n0_; have HO_9 := n1_; have BK146 := n2_; have HB := n3_; clear n0_ n1_ n2_ n3_; (try clear hb); (try clear hb2); (try clear hk); (try clear hi)))
        go_ret2
        exact ⟨by first | rfl | (simp [errW_none, errW_some] <;> rfl) | (simp [*, errW_none, errW_some] <;> rfl), by repeat (first | (with_reducible first | exact HB.out | apply below_alloc | apply pw_below_drewN | apply below_drew1 | refine below_set ?_ GE146.out) | exact HB.out)⟩

end Go.Proofs.Ytkpojbglckmddaa.X

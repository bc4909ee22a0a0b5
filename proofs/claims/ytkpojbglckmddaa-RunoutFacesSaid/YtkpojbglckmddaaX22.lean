-- Made by wip/xprint.py for this claim: the kit's printer over the translation, with hand-proved functions in their places. Lean checks it.
import Derived.Test.YtkpojbglckmddaaX0
import Derived.Test.YtkpojbglckmddaaX3
import Derived.Test.YtkpojbglckmddaaX7
import Derived.Test.YtkpojbglckmddaaX21
namespace Go.Proofs.Ytkpojbglckmddaa.X
open Go.RowKit Go.Proofs.YtkpojbglckmddaaW.PrintWords Go.Proofs.YtkpojbglckmddaaW.PrintLast Go.Proofs.YtkpojbglckmddaaW.PrintMore
attribute [local go_sem] max2_int min2_int max_two min_two max_three min_three max_four min_four   -- for this text's walks alone
set_option linter.unusedVariables false
set_option linter.unusedSimpArgs false

/-! ### metrolabref38_Face: function 32, proved by hand -/
set_option maxHeartbeats 8000000 in
set_option maxRecDepth 100000 in
theorem coords_calls (p : S89) (w : World) : Calls Try.prog 57 #[.agg #[.int .i64 p.f0, .int .i64 p.f1, .int .i64 p.f2]] w fun e w' => e = .returned (.agg #[.int .i64 p.f0, .int .i64 p.f1, .int .i64 p.f2]) ∧ Below w.heap.size w w' := by
  go_enter Try.func57, Try.ntmps57
  go_wp2
  refine bodyPost_ret (v := .agg #[.int .i64 p.f0, .int .i64 p.f1, .int .i64 p.f2]) (by simp [results, Try.f57, go_sem]) rfl ⟨rfl, ?_⟩
  exact ((Below.refl _ _).alloc (Nat.le_refl _) _).alloc (by simp) _
def rcoord (ax : Int) (p : S89) : Int := if ax = 0 then p.f0 else if ax = 1 then p.f1 else p.f2
def pairB (l : List S89) (ax t : Int) (i k : Nat) : Bool := decide (t < wrap64 (rcoord ax (rd_T89 l i) - rcoord ax (rd_T89 l k)))
theorem ext_lt {P : Nat → Prop} {j : Nat} (h : ∀ k, k < j → P k) (hj : P j) : ∀ k, k < j + 1 → P k := fun k hk => by
  by_cases e : k = j
  · subst e; exact hj
  · exact h k (by omega)
set_option maxHeartbeats 8000000 in
set_option maxRecDepth 100000 in
theorem rface_0 (k : Nat) (A0 : Option Addr) (c0 : Nat) (l0 : List S89) (t : Int) (w : World) (hr0 : Kd.C k89 w A0 l0.length l0) (hc0 : l0.length ≤ c0) (h1 : metrolabref07_CheckSpots.f k l0 = some 0) (h2 : l0.length ≠ 0) (h64 : l0.length ≤ 64) (h3 : metrolabref38_Tol.f t = some 0) :
    Calls Try.prog 32 #[.slice A0 l0.length c0, .int .i64 0, .int .i64 t] w fun e w' => ∃ b : Bool, (e = .returned (.tuple #[.bool b, .int .i64 0]) ∧ (b = true ↔ ∀ i k : Nat, i < l0.length → k < l0.length → pairB l0 0 t i k = false)) ∧ Below w.heap.size w w' := by
  have HR := Aside0.mk hr0
  have HC := Aside0.mk hc0
  have H1 := Aside0.mk h1
  have HT := Aside0.mk h3
  have H64 := Aside0.mk h64
  have g1 : (l0.length == 0) = false := by simpa using h2
  have g2 : ((l0.length : Int) == 0) = false := beq_eq_false_iff_ne.mpr (fun e => h2 (by exact_mod_cast e))
  have hi0 : ∀ (a b c : Int) (W : World), (Instr.index 90 (.agg #[.int .i64 a, .int .i64 b, .int .i64 c]) (.int .i64 0)).run Try.prog W = .ok (.int .i64 a) W := fun a b c W => by kernel_rfl
  have HCO := Aside0.mk (show ∀ p : S89, rcoord 0 p = p.f0 from fun p => by unfold rcoord; simp)
  have HAX := Aside0.mk (show metrolabref18_Axis.f 0 = some 0 from by decide +kernel)
  clear hr0 hc0 h1 h2 h64 h3
  go_enter Try.func32, Try.ntmps32
  go_wp2_with (first
    | (go_at_call 55; refine (metrolabref07_CheckSpots.calls _ _ _ _ _ _ HR.out HC.out H1.out).mono ?_; rintro e w1 ⟨rfl, hb1⟩)
    | (go_at_call 56; refine (metrolabref18_Axis.calls _ _ _ HAX.out).mono ?_; rintro e w2 ⟨rfl, hd⟩; obtain ⟨⟨nd, rfl⟩⟩ := hd)
    | (go_at_call 44; refine (metrolabref38_Tol.calls _ _ _ HT.out).mono ?_; rintro e w3 ⟨rfl, hd⟩; obtain ⟨⟨nt, rfl⟩⟩ := hd))
  have HB1 := Aside0.mk (show Below w.heap.size w ((w1.drewN nd).drewN nt) from pw_below_drewN (pw_below_drewN hb1 _) _)
  clear hb1
  go_loopw [11] (fun v11 wr => ∃ i : Nat, i ≤ l0.length ∧ v11 = .int .i64 i ∧ Aside0 (Below w.heap.size w wr) ∧ Aside0 (∀ i' k' : Nat, i' < i → k' < l0.length → pairB l0 0 t i' k' = false)) (fun v11 _ => l0.length - (intOf v11).toNat)
  case atStart => exact ⟨0, Nat.zero_le _, rfl, by simpa using HB1, ⟨fun i' k' h => absurd h (by omega)⟩⟩
  case round =>
    clear HB1
    obtain ⟨i, hi, rfl, HB, HP⟩ := hrel
    obtain ⟨wo, rfl⟩ : ∃ wo : World, wo = wr := ⟨_, rfl⟩
    have hsm : (i : Int) ≤ 64 := by have := H64.out; omega
    by_cases hlt : i < l0.length
    · go_wp2
      go_loopw [12] (fun v12 wr => ∃ j : Nat, j ≤ l0.length ∧ v12 = .int .i64 j ∧ Aside0 (Below w.heap.size w wr) ∧ Aside0 (∀ k' : Nat, k' < j → pairB l0 0 t i k' = false)) (fun v12 _ => l0.length - (intOf v12).toNat)
      case atStart => exact ⟨0, Nat.zero_le _, rfl, HB, ⟨fun k' h => absurd h (by omega)⟩⟩
      case round =>
        clear HB
        obtain ⟨j, hj, rfl, HB, HP2⟩ := hrel
        have hsm2 : (j : Int) ≤ 64 := by have := H64.out; omega
        by_cases hlt2 : j < l0.length
        · obtain ⟨ad, rfl, q1, q2, q3⟩ := at_T89 (Kd.C_below HR.out HB.out) i (by omega) (by omega)
          obtain ⟨ad2, e2, p1, p2, p3⟩ := at_T89 (Kd.C_below HR.out HB.out) j (by omega) (by omega)
          obtain rfl := Option.some.inj e2
          simp only [Int.toNat_natCast] at q1 q2 q3 p1 p2 p3
          go_wp2
          have hpe : pairB l0 0 t i j = decide (t < wrap64 ((rd_T89 l0 i).f0 - (rd_T89 l0 j).f0)) := by unfold pairB; rw [HCO.out, HCO.out]
          have HPE := Aside0.mk hpe
          clear hpe
          cases hb : pairB l0 0 t i j
          all_goals
            have hbb0 : decide (t < wrap64 ((rd_T89 l0 i).f0 - (rd_T89 l0 j).f0)) = _ := HPE.out.symm.trans hb
            have hbb1 := hbb0
            rw [← show IntKind.i64.wrap ((rd_T89 l0 i).f0 - (rd_T89 l0 j).f0) = wrap64 ((rd_T89 l0 i).f0 - (rd_T89 l0 j).f0) from (by unfold Go.RowKit.wrap64; exact IntKind.wrap_i64 _)] at hbb1
            have HBV := Aside0.mk hb
            clear hb
          · go_region_with ((go_at_call 57; refine (coords_calls _ _).mono ?_; rintro e w5 ⟨rfl, hb5⟩; have q1 := pw_cell_below hb5 q1; have q2 := pw_cell_below hb5 q2; have q3 := pw_cell_below hb5 q3; have p1 := pw_cell_below hb5 p1; have p2 := pw_cell_below hb5 p2; have p3 := pw_cell_below hb5 p3; have hbb := below_step (by first | exact HB.out | exact below_drew HB.out) hb5; have HB := Aside0.mk hbb; clear hb5 hbb))
            all_goals
              go_wp2
              first
                | exact ⟨⟨j + 1, by omega, by go_num, HB, ⟨ext_lt HP2.out HBV.out⟩⟩, by simp [intOf]; omega⟩
                | (exfalso; rename_i hx; exact of_decide_eq_false hbb0 hx)
          · go_region_with ((go_at_call 57; refine (coords_calls _ _).mono ?_; rintro e w5 ⟨rfl, hb5⟩; have q1 := pw_cell_below hb5 q1; have q2 := pw_cell_below hb5 q2; have q3 := pw_cell_below hb5 q3; have p1 := pw_cell_below hb5 p1; have p2 := pw_cell_below hb5 p2; have p3 := pw_cell_below hb5 p3; have hbb := below_step (by first | exact HB.out | exact below_drew HB.out) hb5; have HB := Aside0.mk hbb; clear hb5 hbb))
            all_goals
              go_wp2
              first
                | (go_ret2; exact ⟨false, ⟨by first | rfl | (simp; done), ⟨(fun h => by cases h), (fun h => by have := h i j hlt hlt2; rw [HBV.out] at this; cases this)⟩⟩, HB.out⟩)
                | (exfalso; rename_i hx; exact absurd (of_decide_eq_true hbb0) hx)
        · go_wp2
          go_roundw
          case rel =>
            refine ⟨i + 1, by omega, by go_num, HB, ⟨fun i' k' hi' hk' => ?_⟩⟩
            by_cases e : i' = i
            · subst e; exact HP2.out k' (by omega)
            · exact HP.out i' k' (by omega) hk'
          case measure => simp [intOf]; omega
    · go_wp2
      go_ret2
      refine ⟨true, ⟨by first | rfl | (simp; done), ?_⟩, HB.out⟩
      constructor
      · intro _ i' k' hi' hk'; exact HP.out i' k' (by omega) hk'
      · intro _; rfl
set_option maxHeartbeats 8000000 in
set_option maxRecDepth 100000 in
theorem rface_1 (k : Nat) (A0 : Option Addr) (c0 : Nat) (l0 : List S89) (t : Int) (w : World) (hr0 : Kd.C k89 w A0 l0.length l0) (hc0 : l0.length ≤ c0) (h1 : metrolabref07_CheckSpots.f k l0 = some 0) (h2 : l0.length ≠ 0) (h64 : l0.length ≤ 64) (h3 : metrolabref38_Tol.f t = some 0) :
    Calls Try.prog 32 #[.slice A0 l0.length c0, .int .i64 1, .int .i64 t] w fun e w' => ∃ b : Bool, (e = .returned (.tuple #[.bool b, .int .i64 0]) ∧ (b = true ↔ ∀ i k : Nat, i < l0.length → k < l0.length → pairB l0 1 t i k = false)) ∧ Below w.heap.size w w' := by
  have HR := Aside0.mk hr0
  have HC := Aside0.mk hc0
  have H1 := Aside0.mk h1
  have HT := Aside0.mk h3
  have H64 := Aside0.mk h64
  have g1 : (l0.length == 0) = false := by simpa using h2
  have g2 : ((l0.length : Int) == 0) = false := beq_eq_false_iff_ne.mpr (fun e => h2 (by exact_mod_cast e))
  have hi0 : ∀ (a b c : Int) (W : World), (Instr.index 90 (.agg #[.int .i64 a, .int .i64 b, .int .i64 c]) (.int .i64 1)).run Try.prog W = .ok (.int .i64 b) W := fun a b c W => by kernel_rfl
  have HCO := Aside0.mk (show ∀ p : S89, rcoord 1 p = p.f1 from fun p => by unfold rcoord; simp)
  have HAX := Aside0.mk (show metrolabref18_Axis.f 1 = some 0 from by decide +kernel)
  clear hr0 hc0 h1 h2 h64 h3
  go_enter Try.func32, Try.ntmps32
  go_wp2_with (first
    | (go_at_call 55; refine (metrolabref07_CheckSpots.calls _ _ _ _ _ _ HR.out HC.out H1.out).mono ?_; rintro e w1 ⟨rfl, hb1⟩)
    | (go_at_call 56; refine (metrolabref18_Axis.calls _ _ _ HAX.out).mono ?_; rintro e w2 ⟨rfl, hd⟩; obtain ⟨⟨nd, rfl⟩⟩ := hd)
    | (go_at_call 44; refine (metrolabref38_Tol.calls _ _ _ HT.out).mono ?_; rintro e w3 ⟨rfl, hd⟩; obtain ⟨⟨nt, rfl⟩⟩ := hd))
  have HB1 := Aside0.mk (show Below w.heap.size w ((w1.drewN nd).drewN nt) from pw_below_drewN (pw_below_drewN hb1 _) _)
  clear hb1
  go_loopw [11] (fun v11 wr => ∃ i : Nat, i ≤ l0.length ∧ v11 = .int .i64 i ∧ Aside0 (Below w.heap.size w wr) ∧ Aside0 (∀ i' k' : Nat, i' < i → k' < l0.length → pairB l0 1 t i' k' = false)) (fun v11 _ => l0.length - (intOf v11).toNat)
  case atStart => exact ⟨0, Nat.zero_le _, rfl, by simpa using HB1, ⟨fun i' k' h => absurd h (by omega)⟩⟩
  case round =>
    clear HB1
    obtain ⟨i, hi, rfl, HB, HP⟩ := hrel
    obtain ⟨wo, rfl⟩ : ∃ wo : World, wo = wr := ⟨_, rfl⟩
    have hsm : (i : Int) ≤ 64 := by have := H64.out; omega
    by_cases hlt : i < l0.length
    · go_wp2
      go_loopw [12] (fun v12 wr => ∃ j : Nat, j ≤ l0.length ∧ v12 = .int .i64 j ∧ Aside0 (Below w.heap.size w wr) ∧ Aside0 (∀ k' : Nat, k' < j → pairB l0 1 t i k' = false)) (fun v12 _ => l0.length - (intOf v12).toNat)
      case atStart => exact ⟨0, Nat.zero_le _, rfl, HB, ⟨fun k' h => absurd h (by omega)⟩⟩
      case round =>
        clear HB
        obtain ⟨j, hj, rfl, HB, HP2⟩ := hrel
        have hsm2 : (j : Int) ≤ 64 := by have := H64.out; omega
        by_cases hlt2 : j < l0.length
        · obtain ⟨ad, rfl, q1, q2, q3⟩ := at_T89 (Kd.C_below HR.out HB.out) i (by omega) (by omega)
          obtain ⟨ad2, e2, p1, p2, p3⟩ := at_T89 (Kd.C_below HR.out HB.out) j (by omega) (by omega)
          obtain rfl := Option.some.inj e2
          simp only [Int.toNat_natCast] at q1 q2 q3 p1 p2 p3
          go_wp2
          have hpe : pairB l0 1 t i j = decide (t < wrap64 ((rd_T89 l0 i).f1 - (rd_T89 l0 j).f1)) := by unfold pairB; rw [HCO.out, HCO.out]
          have HPE := Aside0.mk hpe
          clear hpe
          cases hb : pairB l0 1 t i j
          all_goals
            have hbb0 : decide (t < wrap64 ((rd_T89 l0 i).f1 - (rd_T89 l0 j).f1)) = _ := HPE.out.symm.trans hb
            have hbb1 := hbb0
            rw [← show IntKind.i64.wrap ((rd_T89 l0 i).f1 - (rd_T89 l0 j).f1) = wrap64 ((rd_T89 l0 i).f1 - (rd_T89 l0 j).f1) from (by unfold Go.RowKit.wrap64; exact IntKind.wrap_i64 _)] at hbb1
            have HBV := Aside0.mk hb
            clear hb
          · go_region_with ((go_at_call 57; refine (coords_calls _ _).mono ?_; rintro e w5 ⟨rfl, hb5⟩; have q1 := pw_cell_below hb5 q1; have q2 := pw_cell_below hb5 q2; have q3 := pw_cell_below hb5 q3; have p1 := pw_cell_below hb5 p1; have p2 := pw_cell_below hb5 p2; have p3 := pw_cell_below hb5 p3; have hbb := below_step (by first | exact HB.out | exact below_drew HB.out) hb5; have HB := Aside0.mk hbb; clear hb5 hbb))
            all_goals
              go_wp2
              first
                | exact ⟨⟨j + 1, by omega, by go_num, HB, ⟨ext_lt HP2.out HBV.out⟩⟩, by simp [intOf]; omega⟩
                | (exfalso; rename_i hx; exact of_decide_eq_false hbb0 hx)
          · go_region_with ((go_at_call 57; refine (coords_calls _ _).mono ?_; rintro e w5 ⟨rfl, hb5⟩; have q1 := pw_cell_below hb5 q1; have q2 := pw_cell_below hb5 q2; have q3 := pw_cell_below hb5 q3; have p1 := pw_cell_below hb5 p1; have p2 := pw_cell_below hb5 p2; have p3 := pw_cell_below hb5 p3; have hbb := below_step (by first | exact HB.out | exact below_drew HB.out) hb5; have HB := Aside0.mk hbb; clear hb5 hbb))
            all_goals
              go_wp2
              first
                | (go_ret2; exact ⟨false, ⟨by first | rfl | (simp; done), ⟨(fun h => by cases h), (fun h => by have := h i j hlt hlt2; rw [HBV.out] at this; cases this)⟩⟩, HB.out⟩)
                | (exfalso; rename_i hx; exact absurd (of_decide_eq_true hbb0) hx)
        · go_wp2
          go_roundw
          case rel =>
            refine ⟨i + 1, by omega, by go_num, HB, ⟨fun i' k' hi' hk' => ?_⟩⟩
            by_cases e : i' = i
            · subst e; exact HP2.out k' (by omega)
            · exact HP.out i' k' (by omega) hk'
          case measure => simp [intOf]; omega
    · go_wp2
      go_ret2
      refine ⟨true, ⟨by first | rfl | (simp; done), ?_⟩, HB.out⟩
      constructor
      · intro _ i' k' hi' hk'; exact HP.out i' k' (by omega) hk'
      · intro _; rfl
set_option maxHeartbeats 8000000 in
set_option maxRecDepth 100000 in
theorem rface_2 (k : Nat) (A0 : Option Addr) (c0 : Nat) (l0 : List S89) (t : Int) (w : World) (hr0 : Kd.C k89 w A0 l0.length l0) (hc0 : l0.length ≤ c0) (h1 : metrolabref07_CheckSpots.f k l0 = some 0) (h2 : l0.length ≠ 0) (h64 : l0.length ≤ 64) (h3 : metrolabref38_Tol.f t = some 0) :
    Calls Try.prog 32 #[.slice A0 l0.length c0, .int .i64 2, .int .i64 t] w fun e w' => ∃ b : Bool, (e = .returned (.tuple #[.bool b, .int .i64 0]) ∧ (b = true ↔ ∀ i k : Nat, i < l0.length → k < l0.length → pairB l0 2 t i k = false)) ∧ Below w.heap.size w w' := by
  have HR := Aside0.mk hr0
  have HC := Aside0.mk hc0
  have H1 := Aside0.mk h1
  have HT := Aside0.mk h3
  have H64 := Aside0.mk h64
  have g1 : (l0.length == 0) = false := by simpa using h2
  have g2 : ((l0.length : Int) == 0) = false := beq_eq_false_iff_ne.mpr (fun e => h2 (by exact_mod_cast e))
  have hi0 : ∀ (a b c : Int) (W : World), (Instr.index 90 (.agg #[.int .i64 a, .int .i64 b, .int .i64 c]) (.int .i64 2)).run Try.prog W = .ok (.int .i64 c) W := fun a b c W => by kernel_rfl
  have HCO := Aside0.mk (show ∀ p : S89, rcoord 2 p = p.f2 from fun p => by unfold rcoord; simp)
  have HAX := Aside0.mk (show metrolabref18_Axis.f 2 = some 0 from by decide +kernel)
  clear hr0 hc0 h1 h2 h64 h3
  go_enter Try.func32, Try.ntmps32
  go_wp2_with (first
    | (go_at_call 55; refine (metrolabref07_CheckSpots.calls _ _ _ _ _ _ HR.out HC.out H1.out).mono ?_; rintro e w1 ⟨rfl, hb1⟩)
    | (go_at_call 56; refine (metrolabref18_Axis.calls _ _ _ HAX.out).mono ?_; rintro e w2 ⟨rfl, hd⟩; obtain ⟨⟨nd, rfl⟩⟩ := hd)
    | (go_at_call 44; refine (metrolabref38_Tol.calls _ _ _ HT.out).mono ?_; rintro e w3 ⟨rfl, hd⟩; obtain ⟨⟨nt, rfl⟩⟩ := hd))
  have HB1 := Aside0.mk (show Below w.heap.size w ((w1.drewN nd).drewN nt) from pw_below_drewN (pw_below_drewN hb1 _) _)
  clear hb1
  go_loopw [11] (fun v11 wr => ∃ i : Nat, i ≤ l0.length ∧ v11 = .int .i64 i ∧ Aside0 (Below w.heap.size w wr) ∧ Aside0 (∀ i' k' : Nat, i' < i → k' < l0.length → pairB l0 2 t i' k' = false)) (fun v11 _ => l0.length - (intOf v11).toNat)
  case atStart => exact ⟨0, Nat.zero_le _, rfl, by simpa using HB1, ⟨fun i' k' h => absurd h (by omega)⟩⟩
  case round =>
    clear HB1
    obtain ⟨i, hi, rfl, HB, HP⟩ := hrel
    obtain ⟨wo, rfl⟩ : ∃ wo : World, wo = wr := ⟨_, rfl⟩
    have hsm : (i : Int) ≤ 64 := by have := H64.out; omega
    by_cases hlt : i < l0.length
    · go_wp2
      go_loopw [12] (fun v12 wr => ∃ j : Nat, j ≤ l0.length ∧ v12 = .int .i64 j ∧ Aside0 (Below w.heap.size w wr) ∧ Aside0 (∀ k' : Nat, k' < j → pairB l0 2 t i k' = false)) (fun v12 _ => l0.length - (intOf v12).toNat)
      case atStart => exact ⟨0, Nat.zero_le _, rfl, HB, ⟨fun k' h => absurd h (by omega)⟩⟩
      case round =>
        clear HB
        obtain ⟨j, hj, rfl, HB, HP2⟩ := hrel
        have hsm2 : (j : Int) ≤ 64 := by have := H64.out; omega
        by_cases hlt2 : j < l0.length
        · obtain ⟨ad, rfl, q1, q2, q3⟩ := at_T89 (Kd.C_below HR.out HB.out) i (by omega) (by omega)
          obtain ⟨ad2, e2, p1, p2, p3⟩ := at_T89 (Kd.C_below HR.out HB.out) j (by omega) (by omega)
          obtain rfl := Option.some.inj e2
          simp only [Int.toNat_natCast] at q1 q2 q3 p1 p2 p3
          go_wp2
          have hpe : pairB l0 2 t i j = decide (t < wrap64 ((rd_T89 l0 i).f2 - (rd_T89 l0 j).f2)) := by unfold pairB; rw [HCO.out, HCO.out]
          have HPE := Aside0.mk hpe
          clear hpe
          cases hb : pairB l0 2 t i j
          all_goals
            have hbb0 : decide (t < wrap64 ((rd_T89 l0 i).f2 - (rd_T89 l0 j).f2)) = _ := HPE.out.symm.trans hb
            have hbb1 := hbb0
            rw [← show IntKind.i64.wrap ((rd_T89 l0 i).f2 - (rd_T89 l0 j).f2) = wrap64 ((rd_T89 l0 i).f2 - (rd_T89 l0 j).f2) from (by unfold Go.RowKit.wrap64; exact IntKind.wrap_i64 _)] at hbb1
            have HBV := Aside0.mk hb
            clear hb
          · go_region_with ((go_at_call 57; refine (coords_calls _ _).mono ?_; rintro e w5 ⟨rfl, hb5⟩; have q1 := pw_cell_below hb5 q1; have q2 := pw_cell_below hb5 q2; have q3 := pw_cell_below hb5 q3; have p1 := pw_cell_below hb5 p1; have p2 := pw_cell_below hb5 p2; have p3 := pw_cell_below hb5 p3; have hbb := below_step (by first | exact HB.out | exact below_drew HB.out) hb5; have HB := Aside0.mk hbb; clear hb5 hbb))
            all_goals
              go_wp2
              first
                | exact ⟨⟨j + 1, by omega, by go_num, HB, ⟨ext_lt HP2.out HBV.out⟩⟩, by simp [intOf]; omega⟩
                | (exfalso; rename_i hx; exact of_decide_eq_false hbb0 hx)
          · go_region_with ((go_at_call 57; refine (coords_calls _ _).mono ?_; rintro e w5 ⟨rfl, hb5⟩; have q1 := pw_cell_below hb5 q1; have q2 := pw_cell_below hb5 q2; have q3 := pw_cell_below hb5 q3; have p1 := pw_cell_below hb5 p1; have p2 := pw_cell_below hb5 p2; have p3 := pw_cell_below hb5 p3; have hbb := below_step (by first | exact HB.out | exact below_drew HB.out) hb5; have HB := Aside0.mk hbb; clear hb5 hbb))
            all_goals
              go_wp2
              first
                | (go_ret2; exact ⟨false, ⟨by first | rfl | (simp; done), ⟨(fun h => by cases h), (fun h => by have := h i j hlt hlt2; rw [HBV.out] at this; cases this)⟩⟩, HB.out⟩)
                | (exfalso; rename_i hx; exact absurd (of_decide_eq_true hbb0) hx)
        · go_wp2
          go_roundw
          case rel =>
            refine ⟨i + 1, by omega, by go_num, HB, ⟨fun i' k' hi' hk' => ?_⟩⟩
            by_cases e : i' = i
            · subst e; exact HP2.out k' (by omega)
            · exact HP.out i' k' (by omega) hk'
          case measure => simp [intOf]; omega
    · go_wp2
      go_ret2
      refine ⟨true, ⟨by first | rfl | (simp; done), ?_⟩, HB.out⟩
      constructor
      · intro _ i' k' hi' hk'; exact HP.out i' k' (by omega) hk'
      · intro _; rfl
set_option maxHeartbeats 8000000 in
set_option maxRecDepth 100000 in
theorem rface_bad (k : Nat) (A0 : Option Addr) (c0 : Nat) (l0 : List S89) (ax t e0 : Int) (w : World) (hr0 : Kd.C k89 w A0 l0.length l0) (hc0 : l0.length ≤ c0) (h1 : metrolabref07_CheckSpots.f k l0 = some e0) (h0 : e0 ≠ 0) :
    Calls Try.prog 32 #[.slice A0 l0.length c0, .int .i64 ax, .int .i64 t] w fun e w' => e = .returned (.tuple #[.bool false, .int .i64 e0]) ∧ Below w.heap.size w w' := by
  have HR := Aside0.mk hr0
  have HC := Aside0.mk hc0
  have g1 : (e0 != 0) = true := by simp [h0]
  have g2 : (e0 == 0) = false := by simp [h0]
  have H1 := Aside0.mk h1
  clear hr0 hc0 h1
  go_enter Try.func32, Try.ntmps32
  go_wp2_with (first
    | (go_at_call 55; refine (metrolabref07_CheckSpots.calls _ _ _ _ _ _ HR.out HC.out H1.out).mono ?_; rintro e w1 ⟨rfl, hb1⟩)
    | (go_at_call 56; refine (metrolabref18_Axis.calls _ _ _ HAX.out).mono ?_; rintro e w2 ⟨rfl, hd⟩; obtain ⟨⟨nd, rfl⟩⟩ := hd)
    | (go_at_call 44; refine (metrolabref38_Tol.calls _ _ _ HT.out).mono ?_; rintro e w3 ⟨rfl, hd⟩; obtain ⟨⟨nt, rfl⟩⟩ := hd))
  go_ret2
  exact ⟨by first | rfl | (simp; done), by repeat (first | exact hb1 | apply pw_below_drewN)⟩
set_option maxHeartbeats 8000000 in
set_option maxRecDepth 100000 in
theorem rface_empty (k : Nat) (A0 : Option Addr) (c0 : Nat) (l0 : List S89) (ax t e0 : Int) (w : World) (hr0 : Kd.C k89 w A0 l0.length l0) (hc0 : l0.length ≤ c0) (h1 : metrolabref07_CheckSpots.f k l0 = some e0) (h0 : e0 = 0) (h2 : l0.length = 0) :
    Calls Try.prog 32 #[.slice A0 l0.length c0, .int .i64 ax, .int .i64 t] w fun e w' => e = .returned (.tuple #[.bool false, .int .i64 13]) ∧ Below w.heap.size w w' := by
  have HR := Aside0.mk hr0
  have HC := Aside0.mk hc0
  subst h0
  have g1 : (l0.length == 0) = true := by simp [h2]
  have g2 : ((l0.length : Int) == 0) = true := by simp [h2]
  clear h2
  have H1 := Aside0.mk h1
  clear hr0 hc0 h1
  go_enter Try.func32, Try.ntmps32
  go_wp2_with (first
    | (go_at_call 55; refine (metrolabref07_CheckSpots.calls _ _ _ _ _ _ HR.out HC.out H1.out).mono ?_; rintro e w1 ⟨rfl, hb1⟩)
    | (go_at_call 56; refine (metrolabref18_Axis.calls _ _ _ HAX.out).mono ?_; rintro e w2 ⟨rfl, hd⟩; obtain ⟨⟨nd, rfl⟩⟩ := hd)
    | (go_at_call 44; refine (metrolabref38_Tol.calls _ _ _ HT.out).mono ?_; rintro e w3 ⟨rfl, hd⟩; obtain ⟨⟨nt, rfl⟩⟩ := hd))
  go_ret2
  exact ⟨by first | rfl | (simp; done), by repeat (first | exact hb1 | apply pw_below_drewN)⟩
set_option maxHeartbeats 8000000 in
set_option maxRecDepth 100000 in
theorem rface_axis (k : Nat) (A0 : Option Addr) (c0 : Nat) (l0 : List S89) (ax t e0 : Int) (w : World) (hr0 : Kd.C k89 w A0 l0.length l0) (hc0 : l0.length ≤ c0) (h1 : metrolabref07_CheckSpots.f k l0 = some e0) (h0 : e0 = 0) (h2 : l0.length ≠ 0) (h3 : metrolabref18_Axis.f ax = some 1) :
    Calls Try.prog 32 #[.slice A0 l0.length c0, .int .i64 ax, .int .i64 t] w fun e w' => e = .returned (.tuple #[.bool false, .int .i64 1]) ∧ Below w.heap.size w w' := by
  have HR := Aside0.mk hr0
  have HC := Aside0.mk hc0
  subst h0
  have g1 : (l0.length == 0) = false := by simpa using h2
  have g2 : ((l0.length : Int) == 0) = false := beq_eq_false_iff_ne.mpr (fun e => h2 (by exact_mod_cast e))
  have HAX := Aside0.mk h3
  clear h2 h3
  have H1 := Aside0.mk h1
  clear hr0 hc0 h1
  go_enter Try.func32, Try.ntmps32
  go_wp2_with (first
    | (go_at_call 55; refine (metrolabref07_CheckSpots.calls _ _ _ _ _ _ HR.out HC.out H1.out).mono ?_; rintro e w1 ⟨rfl, hb1⟩)
    | (go_at_call 56; refine (metrolabref18_Axis.calls _ _ _ HAX.out).mono ?_; rintro e w2 ⟨rfl, hd⟩; obtain ⟨⟨nd, rfl⟩⟩ := hd)
    | (go_at_call 44; refine (metrolabref38_Tol.calls _ _ _ HT.out).mono ?_; rintro e w3 ⟨rfl, hd⟩; obtain ⟨⟨nt, rfl⟩⟩ := hd))
  go_ret2
  exact ⟨by first | rfl | (simp; done), by repeat (first | exact hb1 | apply pw_below_drewN)⟩
set_option maxHeartbeats 8000000 in
set_option maxRecDepth 100000 in
theorem rface_tol (k : Nat) (A0 : Option Addr) (c0 : Nat) (l0 : List S89) (ax t e0 : Int) (w : World) (hr0 : Kd.C k89 w A0 l0.length l0) (hc0 : l0.length ≤ c0) (h1 : metrolabref07_CheckSpots.f k l0 = some e0) (h0 : e0 = 0) (h2 : l0.length ≠ 0) (h3 : metrolabref18_Axis.f ax = some 0) (h5 : metrolabref38_Tol.f t = some 2) :
    Calls Try.prog 32 #[.slice A0 l0.length c0, .int .i64 ax, .int .i64 t] w fun e w' => e = .returned (.tuple #[.bool false, .int .i64 2]) ∧ Below w.heap.size w w' := by
  have HR := Aside0.mk hr0
  have HC := Aside0.mk hc0
  subst h0
  have g1 : (l0.length == 0) = false := by simpa using h2
  have g2 : ((l0.length : Int) == 0) = false := beq_eq_false_iff_ne.mpr (fun e => h2 (by exact_mod_cast e))
  have HAX := Aside0.mk h3
  have HT := Aside0.mk h5
  clear h2 h3 h5
  have H1 := Aside0.mk h1
  clear hr0 hc0 h1
  go_enter Try.func32, Try.ntmps32
  go_wp2_with (first
    | (go_at_call 55; refine (metrolabref07_CheckSpots.calls _ _ _ _ _ _ HR.out HC.out H1.out).mono ?_; rintro e w1 ⟨rfl, hb1⟩)
    | (go_at_call 56; refine (metrolabref18_Axis.calls _ _ _ HAX.out).mono ?_; rintro e w2 ⟨rfl, hd⟩; obtain ⟨⟨nd, rfl⟩⟩ := hd)
    | (go_at_call 44; refine (metrolabref38_Tol.calls _ _ _ HT.out).mono ?_; rintro e w3 ⟨rfl, hd⟩; obtain ⟨⟨nt, rfl⟩⟩ := hd))
  go_ret2
  exact ⟨by first | rfl | (simp; done), by repeat (first | exact hb1 | apply pw_below_drewN)⟩
def pairsOk (l : List S89) (ax t : Int) : Bool := (List.range l.length).all fun i => (List.range l.length).all fun k => !pairB l ax t i k
theorem pairsOk_iff (l : List S89) (ax t : Int) : pairsOk l ax t = true ↔ ∀ i k : Nat, i < l.length → k < l.length → pairB l ax t i k = false := by
  unfold pairsOk
  simp only [List.all_eq_true, List.mem_range, Bool.not_eq_true']
  exact ⟨fun h i k hi hk => h i hi k hk, fun h i hi k hk => h i k hi hk⟩
def rfaceV (l : List S89) (ax t e : Int) : Option (Bool × Int) :=
  if e ≠ 0 then some (false, e) else if l.length = 0 then some (false, 13) else if 64 < l.length then none else if ax < 0 ∨ 3 ≤ ax then some (false, 1) else if ¬ (0 ≤ t ∧ t ≤ 100000) then some (false, 2) else some (pairsOk l ax t, 0)
def metrolabref38_Face.f (k : Nat) (l0 : List S89) (a1 a2 : Int) : Option (Bool × Int) := (metrolabref07_CheckSpots.f k l0).bind (rfaceV l0 a1 a2)
theorem metrolabref38_Face.mono : ∀ a0 a1 a2 k, LeO (metrolabref38_Face.f k a0 a1 a2) (metrolabref38_Face.f (k + 1) a0 a1 a2) := by
  intro a0 a1 a2 k
  unfold metrolabref38_Face.f
  have := metrolabref07_CheckSpots.mono a0 k
  intro v hv
  obtain ⟨e, he, hv⟩ := Option.bind_eq_some_iff.1 hv
  rw [this e he]
  exact hv
theorem metrolabref38_Face.calls (k : Nat) (A0 : Option Addr) (c0 : Nat) (l0 : List S89) (a1 a2 : Int) (r1 : Bool) (r2 : Int) (w : World) (hr0 : Kd.C k89 w A0 l0.length l0) (hc0 : l0.length ≤ c0) (h : metrolabref38_Face.f k l0 a1 a2 = some (r1, r2)) :
    Calls Try.prog 32 #[.slice A0 l0.length c0, .int .i64 a1, .int .i64 a2] w fun e w' => e = .returned (.tuple #[.bool r1, .int .i64 r2]) ∧ Below w.heap.size w w' := by
  unfold metrolabref38_Face.f at h
  obtain ⟨e, he, h⟩ := Option.bind_eq_some_iff.1 h
  unfold rfaceV at h
  by_cases h0 : e = 0
  · rw [if_neg (fun h => h h0)] at h
    by_cases h2 : l0.length = 0
    · rw [if_pos h2] at h
      obtain ⟨rfl, rfl⟩ : false = r1 ∧ 13 = r2 := by have := Option.some.inj h; exact Prod.mk.inj this
      exact rface_empty k A0 c0 l0 a1 a2 e w hr0 hc0 he h0 h2
    · rw [if_neg h2] at h
      by_cases h64 : 64 < l0.length
      · rw [if_pos h64] at h; cases h
      rw [if_neg h64] at h
      by_cases h3 : a1 < 0 ∨ 3 ≤ a1
      · rw [if_pos h3] at h
        obtain ⟨rfl, rfl⟩ : false = r1 ∧ 1 = r2 := by have := Option.some.inj h; exact Prod.mk.inj this
        exact rface_axis k A0 c0 l0 a1 a2 e w hr0 hc0 he h0 h2 (by
          unfold metrolabref18_Axis.f
          by_cases h4 : a1 < 0
          · rw [if_pos h4]
          · rw [if_neg h4, if_pos (by omega)])
      · rw [if_neg h3] at h
        by_cases h5 : 0 ≤ a2 ∧ a2 ≤ 100000
        · rw [if_neg (fun h => h h5)] at h
          obtain ⟨rfl, rfl⟩ : pairsOk l0 a1 a2 = r1 ∧ 0 = r2 := by have := Option.some.inj h; exact Prod.mk.inj this
          have hT : metrolabref38_Tol.f a2 = some 0 := by
            unfold metrolabref38_Tol.f
            rw [if_neg (by omega), if_neg (by omega)]
          subst h0
          have h64' : l0.length ≤ 64 := by omega
          have M : ∀ (E : Ending) (W : World), (∃ b : Bool, (E = .returned (.tuple #[.bool b, .int .i64 0]) ∧ (b = true ↔ ∀ i k : Nat, i < l0.length → k < l0.length → pairB l0 a1 a2 i k = false)) ∧ Below w.heap.size w W) → E = .returned (.tuple #[.bool (pairsOk l0 a1 a2), .int .i64 0]) ∧ Below w.heap.size w W := by
            rintro E W ⟨b, ⟨rfl, hb⟩, hB⟩
            have : b = pairsOk l0 a1 a2 := by
              have h2 := pairsOk_iff l0 a1 a2
              rw [← h2] at hb
              cases b <;> cases hp : pairsOk l0 a1 a2 <;> simp_all
            exact ⟨by rw [this], hB⟩
          have : a1 = 0 ∨ a1 = 1 ∨ a1 = 2 := by omega
          rcases this with rfl | rfl | rfl
          · exact (rface_0 k A0 c0 l0 a2 w hr0 hc0 he h2 h64' hT).mono M
          · exact (rface_1 k A0 c0 l0 a2 w hr0 hc0 he h2 h64' hT).mono M
          · exact (rface_2 k A0 c0 l0 a2 w hr0 hc0 he h2 h64' hT).mono M
        · rw [if_pos h5] at h
          obtain ⟨rfl, rfl⟩ : false = r1 ∧ 2 = r2 := by have := Option.some.inj h; exact Prod.mk.inj this
          exact rface_tol k A0 c0 l0 a1 a2 e w hr0 hc0 he h0 h2 (by
            unfold metrolabref18_Axis.f
            rw [if_neg (by omega), if_neg (by omega)]) (by
            unfold metrolabref38_Tol.f
            by_cases h4 : a2 < 0
            · rw [if_pos h4]
            · rw [if_neg h4, if_pos (by omega)])
  · rw [if_pos h0] at h
    obtain ⟨rfl, rfl⟩ : false = r1 ∧ e = r2 := by have := Option.some.inj h; exact Prod.mk.inj this
    exact rface_bad k A0 c0 l0 a1 a2 e w hr0 hc0 he h0

/-! ### metrolablaw38_RunoutFaces: function 9 -/
def metrolablaw38_RunoutFaces.f (k : Nat) (l0 : List (S89)) (a1 : Int) (a2 : Int) : Option (Bool) := (metrolabref07_FewSpots.f l0).bind fun t427 => (if t427 = true then ((runout_Face.f l0 a1 a2).bind fun bt428 => ((metrolabref38_Face.f k l0 a1 a2).bind fun bt430 => ((metrolablaw38_awake.f).bind fun t432 => (if t432 = true then (if (bt428.1 == bt430.1) = true then (some (bt428.2 == bt430.2)) else (some false)) else (some false))))) else ((metrolablaw38_awake.f).bind fun t433 => (some t433)))
theorem metrolablaw38_RunoutFaces.mono : ∀ a0 a1 a2 k, LeO (metrolablaw38_RunoutFaces.f k a0 a1 a2) (metrolablaw38_RunoutFaces.f (k + 1) a0 a1 a2) := by
  intro a0 a1 a2 k
  unfold metrolablaw38_RunoutFaces.f
  repeat' first
      | (with_reducible exact metrolabref38_Face.mono _ _ _ _)
      | (with_reducible exact LeO.refl _)
      | (with_reducible exact LeO.none _)
      | (with_reducible refine LeO.ite ?_ ?_)
      | (with_reducible refine LeO.bind ?_ (fun _ => ?_))
      | exact metrolabref38_Face.mono _ _ _ _
      | exact LeO.none _
      | refine LeO.ite ?_ ?_
      | refine LeO.bind ?_ (fun _ => ?_)
set_option maxHeartbeats 8000000 in
set_option maxRecDepth 100000 in
theorem metrolablaw38_RunoutFaces.calls (k : Nat) (A0 : Option Addr) (c0 : Nat) (l0 : List (S89)) (a1 : Int) (a2 : Int) (r : Bool) (w : World) (hr0 : Kd.C k89 w A0 l0.length l0) (hc0 : l0.length ≤ c0) (h : metrolablaw38_RunoutFaces.f k l0 a1 a2 = some r) :
    Calls Try.prog 9 #[.slice A0 l0.length c0, .int .i64 a1, .int .i64 a2] w fun e w' => e = .returned (.bool r) ∧ Below w.heap.size w w' := by
  have HR0 := Aside0.mk hr0
  have HC0 := Aside0.mk hc0
  clear hr0 hc0
  have HB := Aside0.mk (Below.refl w.heap.size w)
  have H : ((metrolabref07_FewSpots.f l0).bind fun t427 => (if t427 = true then ((runout_Face.f l0 a1 a2).bind fun bt428 => ((metrolabref38_Face.f k l0 a1 a2).bind fun bt430 => ((metrolablaw38_awake.f).bind fun t432 => (if t432 = true then (if (bt428.1 == bt430.1) = true then (some (bt428.2 == bt430.2)) else (some false)) else (some false))))) else ((metrolablaw38_awake.f).bind fun t433 => (some t433)))) = some r := h
  clear h
  replace H := Option.bind_eq_some_iff.mp H
  obtain ⟨t427, A40, H⟩ := H
  replace H : (if t427 = true then ((runout_Face.f l0 a1 a2).bind fun bt428 => ((metrolabref38_Face.f k l0 a1 a2).bind fun bt430 => ((metrolablaw38_awake.f).bind fun t432 => (if t432 = true then (if (bt428.1 == bt430.1) = true then (some (bt428.2 == bt430.2)) else (some false)) else (some false))))) else ((metrolablaw38_awake.f).bind fun t433 => (some t433))) = some r := H
  have A4 := Aside0.mk A40
  clear A40
  by_cases c5 : t427 = true
  · subst c5
    have H1 : ((runout_Face.f l0 a1 a2).bind fun bt428 => ((metrolabref38_Face.f k l0 a1 a2).bind fun bt430 => ((metrolablaw38_awake.f).bind fun t432 => (if t432 = true then (if (bt428.1 == bt430.1) = true then (some (bt428.2 == bt430.2)) else (some false)) else (some false))))) = some r := by rw [if_pos rfl] at H; exact H
    clear H
    have H := H1
    clear H1
    replace H := Option.bind_eq_some_iff.mp H
    obtain ⟨⟨t428, t429⟩, A60, H⟩ := H
    replace H : ((metrolabref38_Face.f k l0 a1 a2).bind fun bt430 => ((metrolablaw38_awake.f).bind fun t432 => (if t432 = true then (if (t428 == bt430.1) = true then (some (t429 == bt430.2)) else (some false)) else (some false)))) = some r := H
    have A6 := Aside0.mk A60
    clear A60
    replace H := Option.bind_eq_some_iff.mp H
    obtain ⟨⟨t430, t431⟩, A70, H⟩ := H
    replace H : ((metrolablaw38_awake.f).bind fun t432 => (if t432 = true then (if (t428 == t430) = true then (some (t429 == t431)) else (some false)) else (some false))) = some r := H
    have A7 := Aside0.mk A70
    clear A70
    replace H := Option.bind_eq_some_iff.mp H
    obtain ⟨t432, A80, H⟩ := H
    replace H : (if t432 = true then (if (t428 == t430) = true then (some (t429 == t431)) else (some false)) else (some false)) = some r := H
    have A8 := Aside0.mk A80
    clear A80
    by_cases c9 : t432 = true
    · subst c9
      have H1 : (if (t428 == t430) = true then (some (t429 == t431)) else (some false)) = some r := by rw [if_pos rfl] at H; exact H
      clear H
      have H := H1
      clear H1
      by_cases c10 : (t428 == t430) = true
      · rw [if_pos c10] at H
        have c10b0 : (t428 == t430) = true := c10
        (try (have c10b1 : decide (t428 = t430) = true := by simpa using c10))
        (try (have c10b2 : (t428 == t430) = true := by simpa using c10))
        clear c10
        obtain rfl := Option.some.inj H
        go_enter Try.func9, Try.ntmps9
        go_wp2_with (first | ((with_reducible refine gate_callee (f := 30) rfl ?_); refine goesL_ (some 12) rfl rfl Try.func30 (by kernel_rfl) rfl #[.slice A0 l0.length c0] rfl (by (try simp only [List.map_toArray, List.map_cons, List.map_nil]); first | done | rfl | (simp only [List.length_drop, List.length_take]; rfl)) ?_; (with_reducible refine (metrolabref07_FewSpots.calls _ _ l0 true _ ?side1 ?side2 A4.out).mono ?_); (case side1 => repeat (first | exact HR0.out | (with_reducible refine Kd.C_alloc ?_ _) | (with_reducible refine Kd.C_drewN ?_ _) | (with_reducible refine Kd.C_drew ?_))); (case side2 => exact HC0.out); rintro e w' ⟨rfl, ⟨nd, rfl⟩⟩; refine ⟨_, rfl, ?_⟩) | ((with_reducible refine gate_callee (f := 31) rfl ?_); refine goesL_ (some 19) rfl rfl Try.func31 (by kernel_rfl) rfl #[.slice A0 l0.length c0, .int .i64 a1, .int .i64 a2] rfl (by (try simp only [List.map_toArray, List.map_cons, List.map_nil]); first | done | rfl | (simp only [List.length_drop, List.length_take]; rfl)) ?_; (with_reducible refine (runout_Face.calls _ _ l0 a1 a2 t428 t429 _ ?side1 ?side2 A6.out).mono ?_); (case side1 => repeat (first | exact HR0.out | (with_reducible refine Kd.C_alloc ?_ _) | (with_reducible refine Kd.C_drewN ?_ _) | (with_reducible refine Kd.C_drew ?_))); (case side2 => exact HC0.out); rintro e w11 ⟨rfl, hb⟩; refine ⟨_, rfl, ?_⟩; have n0_ := Aside0.mk (below_step (by repeat (first | (with_reducible first | exact HB.out | apply below_alloc | apply pw_below_drewN | apply below_drew1) | exact HB.out)) hb); clear HB; have HB := n0_; clear n0_; (try clear hb); (try clear hb2); (try clear hk); (try clear hi)) | ((with_reducible refine gate_callee (f := 32) rfl ?_); refine goesL_ (some 26) rfl rfl Try.func32 (by kernel_rfl) rfl #[.slice A0 l0.length c0, .int .i64 a1, .int .i64 a2] rfl (by (try simp only [List.map_toArray, List.map_cons, List.map_nil]); first | done | rfl | (simp only [List.length_drop, List.length_take]; rfl)) ?_; (with_reducible refine (metrolabref38_Face.calls k _ _ l0 a1 a2 t430 t431 _ ?side1 ?side2 A7.out).mono ?_); (case side1 => repeat (first | exact (Kd.C_below HR0.out HB.out) | (with_reducible refine Kd.C_alloc ?_ _) | (with_reducible refine Kd.C_drewN ?_ _) | (with_reducible refine Kd.C_drew ?_))); (case side2 => exact HC0.out); rintro e w12 ⟨rfl, hb⟩; refine ⟨_, rfl, ?_⟩; have n0_ := Aside0.mk (below_step (by repeat (first | (with_reducible first | exact HB.out | apply below_alloc | apply pw_below_drewN | apply below_drew1) | exact HB.out)) hb); clear HB; have HB := n0_; clear n0_; (try clear hb); (try clear hb2); (try clear hk); (try clear hi)) | ((with_reducible refine gate_callee (f := 13) rfl ?_); refine goesL_ (some 29) rfl rfl Try.func13 (by kernel_rfl) rfl #[] rfl (by (try simp only [List.map_toArray, List.map_cons, List.map_nil]); first | done | rfl | (simp only [List.length_drop, List.length_take]; rfl)) ?_; (with_reducible refine (metrolablaw38_awake.calls  true _ A8.out).mono ?_); rintro e w13 ⟨rfl, hb⟩; refine ⟨_, rfl, ?_⟩; have n0_ := Aside0.mk (below_step (by repeat (first | (with_reducible first | exact HB.out | apply below_alloc | apply pw_below_drewN | apply below_drew1) | exact HB.out)) hb); clear HB; have HB := n0_; clear n0_; (try clear hb); (try clear hb2); (try clear hk); (try clear hi)))
        go_ret
        exact ⟨by first | rfl | (simp [errW_none, errW_some] <;> rfl) | (simp [*, errW_none, errW_some] <;> rfl), by repeat (first | (with_reducible first | exact HB.out | apply below_alloc | apply pw_below_drewN | apply below_drew1) | exact HB.out)⟩
      · rw [if_neg c10] at H
        have c10b0 : (t428 == t430) = false := by simpa using c10
        (try (have c10b1 : decide (t428 = t430) = false := by simpa using c10))
        (try (have c10b2 : (t428 == t430) = false := by simpa using c10))
        (try (have c10b3 : ¬ (t428 = t430) := by simpa using c10))
        clear c10
        obtain rfl := Option.some.inj H
        go_enter Try.func9, Try.ntmps9
        go_wp2_with (first | ((with_reducible refine gate_callee (f := 30) rfl ?_); refine goesL_ (some 12) rfl rfl Try.func30 (by kernel_rfl) rfl #[.slice A0 l0.length c0] rfl (by (try simp only [List.map_toArray, List.map_cons, List.map_nil]); first | done | rfl | (simp only [List.length_drop, List.length_take]; rfl)) ?_; (with_reducible refine (metrolabref07_FewSpots.calls _ _ l0 true _ ?side1 ?side2 A4.out).mono ?_); (case side1 => repeat (first | exact HR0.out | (with_reducible refine Kd.C_alloc ?_ _) | (with_reducible refine Kd.C_drewN ?_ _) | (with_reducible refine Kd.C_drew ?_))); (case side2 => exact HC0.out); rintro e w' ⟨rfl, ⟨nd, rfl⟩⟩; refine ⟨_, rfl, ?_⟩) | ((with_reducible refine gate_callee (f := 31) rfl ?_); refine goesL_ (some 19) rfl rfl Try.func31 (by kernel_rfl) rfl #[.slice A0 l0.length c0, .int .i64 a1, .int .i64 a2] rfl (by (try simp only [List.map_toArray, List.map_cons, List.map_nil]); first | done | rfl | (simp only [List.length_drop, List.length_take]; rfl)) ?_; (with_reducible refine (runout_Face.calls _ _ l0 a1 a2 t428 t429 _ ?side1 ?side2 A6.out).mono ?_); (case side1 => repeat (first | exact HR0.out | (with_reducible refine Kd.C_alloc ?_ _) | (with_reducible refine Kd.C_drewN ?_ _) | (with_reducible refine Kd.C_drew ?_))); (case side2 => exact HC0.out); rintro e w14 ⟨rfl, hb⟩; refine ⟨_, rfl, ?_⟩; have n0_ := Aside0.mk (below_step (by repeat (first | (with_reducible first | exact HB.out | apply below_alloc | apply pw_below_drewN | apply below_drew1) | exact HB.out)) hb); clear HB; have HB := n0_; clear n0_; (try clear hb); (try clear hb2); (try clear hk); (try clear hi)) | ((with_reducible refine gate_callee (f := 32) rfl ?_); refine goesL_ (some 26) rfl rfl Try.func32 (by kernel_rfl) rfl #[.slice A0 l0.length c0, .int .i64 a1, .int .i64 a2] rfl (by (try simp only [List.map_toArray, List.map_cons, List.map_nil]); first | done | rfl | (simp only [List.length_drop, List.length_take]; rfl)) ?_; (with_reducible refine (metrolabref38_Face.calls k _ _ l0 a1 a2 t430 t431 _ ?side1 ?side2 A7.out).mono ?_); (case side1 => repeat (first | exact (Kd.C_below HR0.out HB.out) | (with_reducible refine Kd.C_alloc ?_ _) | (with_reducible refine Kd.C_drewN ?_ _) | (with_reducible refine Kd.C_drew ?_))); (case side2 => exact HC0.out); rintro e w15 ⟨rfl, hb⟩; refine ⟨_, rfl, ?_⟩; have n0_ := Aside0.mk (below_step (by repeat (first | (with_reducible first | exact HB.out | apply below_alloc | apply pw_below_drewN | apply below_drew1) | exact HB.out)) hb); clear HB; have HB := n0_; clear n0_; (try clear hb); (try clear hb2); (try clear hk); (try clear hi)) | ((with_reducible refine gate_callee (f := 13) rfl ?_); refine goesL_ (some 29) rfl rfl Try.func13 (by kernel_rfl) rfl #[] rfl (by (try simp only [List.map_toArray, List.map_cons, List.map_nil]); first | done | rfl | (simp only [List.length_drop, List.length_take]; rfl)) ?_; (with_reducible refine (metrolablaw38_awake.calls  true _ A8.out).mono ?_); rintro e w16 ⟨rfl, hb⟩; refine ⟨_, rfl, ?_⟩; have n0_ := Aside0.mk (below_step (by repeat (first | (with_reducible first | exact HB.out | apply below_alloc | apply pw_below_drewN | apply below_drew1) | exact HB.out)) hb); clear HB; have HB := n0_; clear n0_; (try clear hb); (try clear hb2); (try clear hk); (try clear hi)))
        go_ret
        exact ⟨by first | rfl | (simp [errW_none, errW_some] <;> rfl) | (simp [*, errW_none, errW_some] <;> rfl), by repeat (first | (with_reducible first | exact HB.out | apply below_alloc | apply pw_below_drewN | apply below_drew1) | exact HB.out)⟩
    · replace c9 := Bool.eq_false_iff.mpr c9
      subst c9
      have H1 : (some false) = some r := by rw [if_neg (show ¬ (false = true) by decide)] at H; exact H
      clear H
      have H := H1
      clear H1
      obtain rfl := Option.some.inj H
      go_enter Try.func9, Try.ntmps9
      go_wp2_with (first | ((with_reducible refine gate_callee (f := 30) rfl ?_); refine goesL_ (some 12) rfl rfl Try.func30 (by kernel_rfl) rfl #[.slice A0 l0.length c0] rfl (by (try simp only [List.map_toArray, List.map_cons, List.map_nil]); first | done | rfl | (simp only [List.length_drop, List.length_take]; rfl)) ?_; (with_reducible refine (metrolabref07_FewSpots.calls _ _ l0 true _ ?side1 ?side2 A4.out).mono ?_); (case side1 => repeat (first | exact HR0.out | (with_reducible refine Kd.C_alloc ?_ _) | (with_reducible refine Kd.C_drewN ?_ _) | (with_reducible refine Kd.C_drew ?_))); (case side2 => exact HC0.out); rintro e w' ⟨rfl, ⟨nd, rfl⟩⟩; refine ⟨_, rfl, ?_⟩) | ((with_reducible refine gate_callee (f := 31) rfl ?_); refine goesL_ (some 19) rfl rfl Try.func31 (by kernel_rfl) rfl #[.slice A0 l0.length c0, .int .i64 a1, .int .i64 a2] rfl (by (try simp only [List.map_toArray, List.map_cons, List.map_nil]); first | done | rfl | (simp only [List.length_drop, List.length_take]; rfl)) ?_; (with_reducible refine (runout_Face.calls _ _ l0 a1 a2 t428 t429 _ ?side1 ?side2 A6.out).mono ?_); (case side1 => repeat (first | exact HR0.out | (with_reducible refine Kd.C_alloc ?_ _) | (with_reducible refine Kd.C_drewN ?_ _) | (with_reducible refine Kd.C_drew ?_))); (case side2 => exact HC0.out); rintro e w17 ⟨rfl, hb⟩; refine ⟨_, rfl, ?_⟩; have n0_ := Aside0.mk (below_step (by repeat (first | (with_reducible first | exact HB.out | apply below_alloc | apply pw_below_drewN | apply below_drew1) | exact HB.out)) hb); clear HB; have HB := n0_; clear n0_; (try clear hb); (try clear hb2); (try clear hk); (try clear hi)) | ((with_reducible refine gate_callee (f := 32) rfl ?_); refine goesL_ (some 26) rfl rfl Try.func32 (by kernel_rfl) rfl #[.slice A0 l0.length c0, .int .i64 a1, .int .i64 a2] rfl (by (try simp only [List.map_toArray, List.map_cons, List.map_nil]); first | done | rfl | (simp only [List.length_drop, List.length_take]; rfl)) ?_; (with_reducible refine (metrolabref38_Face.calls k _ _ l0 a1 a2 t430 t431 _ ?side1 ?side2 A7.out).mono ?_); (case side1 => repeat (first | exact (Kd.C_below HR0.out HB.out) | (with_reducible refine Kd.C_alloc ?_ _) | (with_reducible refine Kd.C_drewN ?_ _) | (with_reducible refine Kd.C_drew ?_))); (case side2 => exact HC0.out); rintro e w18 ⟨rfl, hb⟩; refine ⟨_, rfl, ?_⟩; have n0_ := Aside0.mk (below_step (by repeat (first | (with_reducible first | exact HB.out | apply below_alloc | apply pw_below_drewN | apply below_drew1) | exact HB.out)) hb); clear HB; have HB := n0_; clear n0_; (try clear hb); (try clear hb2); (try clear hk); (try clear hi)) | ((with_reducible refine gate_callee (f := 13) rfl ?_); refine goesL_ (some 29) rfl rfl Try.func13 (by kernel_rfl) rfl #[] rfl (by (try simp only [List.map_toArray, List.map_cons, List.map_nil]); first | done | rfl | (simp only [List.length_drop, List.length_take]; rfl)) ?_; (with_reducible refine (metrolablaw38_awake.calls  false _ A8.out).mono ?_); rintro e w19 ⟨rfl, hb⟩; refine ⟨_, rfl, ?_⟩; have n0_ := Aside0.mk (below_step (by repeat (first | (with_reducible first | exact HB.out | apply below_alloc | apply pw_below_drewN | apply below_drew1) | exact HB.out)) hb); clear HB; have HB := n0_; clear n0_; (try clear hb); (try clear hb2); (try clear hk); (try clear hi)))
      go_ret
      exact ⟨by first | rfl | (simp [errW_none, errW_some] <;> rfl) | (simp [*, errW_none, errW_some] <;> rfl), by repeat (first | (with_reducible first | exact HB.out | apply below_alloc | apply pw_below_drewN | apply below_drew1) | exact HB.out)⟩
  · replace c5 := Bool.eq_false_iff.mpr c5
    subst c5
    have H1 : ((metrolablaw38_awake.f).bind fun t433 => (some t433)) = some r := by rw [if_neg (show ¬ (false = true) by decide)] at H; exact H
    clear H
    have H := H1
    clear H1
    replace H := Option.bind_eq_some_iff.mp H
    obtain ⟨t433, A200, H⟩ := H
    replace H : (some t433) = some r := H
    have A20 := Aside0.mk A200
    clear A200
    obtain rfl := Option.some.inj H
    go_enter Try.func9, Try.ntmps9
    go_wp2_with (first | ((with_reducible refine gate_callee (f := 30) rfl ?_); refine goesL_ (some 12) rfl rfl Try.func30 (by kernel_rfl) rfl #[.slice A0 l0.length c0] rfl (by (try simp only [List.map_toArray, List.map_cons, List.map_nil]); first | done | rfl | (simp only [List.length_drop, List.length_take]; rfl)) ?_; (with_reducible refine (metrolabref07_FewSpots.calls _ _ l0 false _ ?side1 ?side2 A4.out).mono ?_); (case side1 => repeat (first | exact HR0.out | (with_reducible refine Kd.C_alloc ?_ _) | (with_reducible refine Kd.C_drewN ?_ _) | (with_reducible refine Kd.C_drew ?_))); (case side2 => exact HC0.out); rintro e w' ⟨rfl, ⟨nd, rfl⟩⟩; refine ⟨_, rfl, ?_⟩) | ((with_reducible refine gate_callee (f := 13) rfl ?_); refine goesL_ (some 14) rfl rfl Try.func13 (by kernel_rfl) rfl #[] rfl (by (try simp only [List.map_toArray, List.map_cons, List.map_nil]); first | done | rfl | (simp only [List.length_drop, List.length_take]; rfl)) ?_; (with_reducible refine (metrolablaw38_awake.calls  t433 _ A20.out).mono ?_); rintro e w21 ⟨rfl, hb⟩; refine ⟨_, rfl, ?_⟩; have n0_ := Aside0.mk (below_step (by repeat (first | (with_reducible first | exact HB.out | apply below_alloc | apply pw_below_drewN | apply below_drew1) | exact HB.out)) hb); clear HB; have HB := n0_; clear n0_; (try clear hb); (try clear hb2); (try clear hk); (try clear hi)))
    go_ret
    exact ⟨by first | rfl | (simp [errW_none, errW_some] <;> rfl) | (simp [*, errW_none, errW_some] <;> rfl), by repeat (first | (with_reducible first | exact HB.out | apply below_alloc | apply pw_below_drewN | apply below_drew1) | exact HB.out)⟩

end Go.Proofs.Ytkpojbglckmddaa.X

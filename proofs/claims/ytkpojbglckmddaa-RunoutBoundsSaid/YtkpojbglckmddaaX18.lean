-- Made by wip/xprint.py for this claim: the kit's printer over the translation, with hand-proved functions in their places. Lean checks it.
import Derived.Test.YtkpojbglckmddaaX0
import Derived.Test.YtkpojbglckmddaaX2
import Derived.Test.YtkpojbglckmddaaX3
import Derived.Test.YtkpojbglckmddaaX13
namespace Go.Proofs.Ytkpojbglckmddaa.X
open Go.RowKit Go.Proofs.YtkpojbglckmddaaW.PrintWords Go.Proofs.YtkpojbglckmddaaW.PrintLast Go.Proofs.YtkpojbglckmddaaW.PrintMore
attribute [local go_sem] max2_int min2_int max_two min_two max_three min_three max_four min_four   -- for this text's walks alone
set_option linter.unusedVariables false
set_option linter.unusedSimpArgs false

/-! ### metrolablaw38_RunoutBounds: function 6 -/
mutual
def metrolablaw38_RunoutBounds.j0 : Nat → List (S62) → Int → Int → Bool → Bool → Bool → Int → Int → Option (Bool)
  | 0, _, _, _, _, _, _, _, _ => none
  | k + 1, x0, x2, x7, x9, x11, x80, x386000, x386001 => if x80 = true then (some false) else ((runout_Total.f k x0 x386000 x386001 (wrap64 ((wrap64 (x2)) + 1))).bind fun bt395 => ((runout_Circular.f k x0 x386000 x386001 (wrap64 ((wrap64 (x2)) + 1))).bind fun bt397 => (if (wrap64 (bt395.2 + bt397.2.2)) = 0 then (if x9 = true then (if bt395.1 = true then (if x11 = true then (metrolablaw38_RunoutBounds.j1 k x0 x7 (!bt397.1) x386000 x386001) else (metrolablaw38_RunoutBounds.j1 k x0 x7 false x386000 x386001)) else (metrolablaw38_RunoutBounds.j1 k x0 x7 true x386000 x386001)) else (if x11 = true then (metrolablaw38_RunoutBounds.j1 k x0 x7 (!bt397.1) x386000 x386001) else (metrolablaw38_RunoutBounds.j1 k x0 x7 false x386000 x386001))) else (metrolablaw38_RunoutBounds.j1 k x0 x7 true x386000 x386001))))
def metrolablaw38_RunoutBounds.j1 : Nat → List (S62) → Int → Bool → Int → Int → Option (Bool)
  | 0, _, _, _, _, _ => none
  | k + 1, x0, x7, x117, x386000, x386001 => if x117 = true then (some false) else (if x7 > 100000 then ((metrolablaw38_awake.f).bind fun t400 => (some t400)) else ((runout_Total.f k x0 x386000 x386001 x7).bind fun bt401 => (if bt401.2 = 0 then (metrolablaw38_RunoutBounds.j2 k x0 x7 (!bt401.1) x386000 x386001) else (metrolablaw38_RunoutBounds.j2 k x0 x7 true x386000 x386001))))
def metrolablaw38_RunoutBounds.j2 : Nat → List (S62) → Int → Bool → Int → Int → Option (Bool)
  | 0, _, _, _, _, _ => none
  | k + 1, x0, x7, x133, x386000, x386001 => if x133 = true then (some false) else (if x7 > 0 then ((runout_Total.f k x0 x386000 x386001 (wrap64 (x7 - 1))).bind fun bt403 => (if bt403.2 = 0 then (if bt403.1 = true then (some false) else ((metrolablaw38_awake.f).bind fun t405 => (some t405))) else (some false))) else ((metrolablaw38_awake.f).bind fun t406 => (some t406)))
end
def metrolablaw38_RunoutBounds.f (k : Nat) (l0 : List (S62)) (a1_0 : Int) (a1_1 : Int) (a2 : Int) : Option (Bool) := (metrolablaw38_right.f k l0 a1_0 a1_1).bind fun t386 => (if t386 = true then ((runout_Least.f k l0 a1_0 a1_1).bind fun bt388 => ((runout_Total.f k l0 a1_0 a1_1 (wrap64 (a2))).bind fun bt390 => ((runout_Circular.f k l0 a1_0 a1_1 (wrap64 (a2))).bind fun bt392 => (if (wrap64 ((wrap64 (bt388.2 + bt390.2)) + bt392.2.2)) = 0 then (if bt388.1 < 0 then (metrolablaw38_RunoutBounds.j0 k l0 a2 bt388.1 bt390.1 bt392.1 true a1_0 a1_1) else (if (bt390.1 != (decide ((wrap64 (a2)) ≥ bt388.1))) = true then (metrolablaw38_RunoutBounds.j0 k l0 a2 bt388.1 bt390.1 bt392.1 true a1_0 a1_1) else (if bt390.1 = true then (if bt392.1 = true then (metrolablaw38_RunoutBounds.j0 k l0 a2 bt388.1 bt390.1 bt392.1 (bt392.1 != (bt392.2.1 == (l0.length : Int))) a1_0 a1_1) else (metrolablaw38_RunoutBounds.j0 k l0 a2 bt388.1 bt390.1 bt392.1 true a1_0 a1_1)) else (metrolablaw38_RunoutBounds.j0 k l0 a2 bt388.1 bt390.1 bt392.1 (bt392.1 != (bt392.2.1 == (l0.length : Int))) a1_0 a1_1)))) else (metrolablaw38_RunoutBounds.j0 k l0 a2 bt388.1 bt390.1 bt392.1 true a1_0 a1_1))))) else ((metrolablaw38_awake.f).bind fun t387 => (some t387)))
theorem metrolablaw38_RunoutBounds.mono_l : ∀ k, (∀ y0 y1 y2 y3 y4 y5 y6 y7, LeO (metrolablaw38_RunoutBounds.j0 k y0 y1 y2 y3 y4 y5 y6 y7) (metrolablaw38_RunoutBounds.j0 (k + 1) y0 y1 y2 y3 y4 y5 y6 y7)) ∧ (∀ y0 y1 y2 y3 y4, LeO (metrolablaw38_RunoutBounds.j1 k y0 y1 y2 y3 y4) (metrolablaw38_RunoutBounds.j1 (k + 1) y0 y1 y2 y3 y4)) ∧ (∀ y0 y1 y2 y3 y4, LeO (metrolablaw38_RunoutBounds.j2 k y0 y1 y2 y3 y4) (metrolablaw38_RunoutBounds.j2 (k + 1) y0 y1 y2 y3 y4))
  | 0 => ⟨fun _ _ _ _ _ _ _ _ r h => by simp [metrolablaw38_RunoutBounds.j0] at h, fun _ _ _ _ _ r h => by simp [metrolablaw38_RunoutBounds.j1] at h, fun _ _ _ _ _ r h => by simp [metrolablaw38_RunoutBounds.j2] at h⟩
  | k + 1 => by
    obtain ⟨ih0, ih1, ih2⟩ := metrolablaw38_RunoutBounds.mono_l k
    refine ⟨?_, ?_, ?_⟩
    · intro y0 y1 y2 y3 y4 y5 y6 y7
      unfold metrolablaw38_RunoutBounds.j0
      repeat' first
      | (with_reducible exact ih0 _ _ _ _ _ _ _ _)
      | (with_reducible exact ih1 _ _ _ _ _)
      | (with_reducible exact ih2 _ _ _ _ _)
      | (with_reducible exact metrolablaw38_right.mono _ _ _ _)
      | (with_reducible exact runout_Circular.mono _ _ _ _ _)
      | (with_reducible exact runout_Least.mono _ _ _ _)
      | (with_reducible exact runout_Total.mono _ _ _ _ _)
      | (with_reducible exact LeO.refl _)
      | (with_reducible exact LeO.none _)
      | (with_reducible refine LeO.ite ?_ ?_)
      | (with_reducible refine LeO.bind ?_ (fun _ => ?_))
      | exact ih0 _ _ _ _ _ _ _ _
      | exact ih1 _ _ _ _ _
      | exact ih2 _ _ _ _ _
      | exact metrolablaw38_right.mono _ _ _ _
      | exact runout_Circular.mono _ _ _ _ _
      | exact runout_Least.mono _ _ _ _
      | exact runout_Total.mono _ _ _ _ _
      | exact LeO.none _
      | refine LeO.ite ?_ ?_
      | refine LeO.bind ?_ (fun _ => ?_)
    · intro y0 y1 y2 y3 y4
      unfold metrolablaw38_RunoutBounds.j1
      repeat' first
      | (with_reducible exact ih0 _ _ _ _ _ _ _ _)
      | (with_reducible exact ih1 _ _ _ _ _)
      | (with_reducible exact ih2 _ _ _ _ _)
      | (with_reducible exact metrolablaw38_right.mono _ _ _ _)
      | (with_reducible exact runout_Circular.mono _ _ _ _ _)
      | (with_reducible exact runout_Least.mono _ _ _ _)
      | (with_reducible exact runout_Total.mono _ _ _ _ _)
      | (with_reducible exact LeO.refl _)
      | (with_reducible exact LeO.none _)
      | (with_reducible refine LeO.ite ?_ ?_)
      | (with_reducible refine LeO.bind ?_ (fun _ => ?_))
      | exact ih0 _ _ _ _ _ _ _ _
      | exact ih1 _ _ _ _ _
      | exact ih2 _ _ _ _ _
      | exact metrolablaw38_right.mono _ _ _ _
      | exact runout_Circular.mono _ _ _ _ _
      | exact runout_Least.mono _ _ _ _
      | exact runout_Total.mono _ _ _ _ _
      | exact LeO.none _
      | refine LeO.ite ?_ ?_
      | refine LeO.bind ?_ (fun _ => ?_)
    · intro y0 y1 y2 y3 y4
      unfold metrolablaw38_RunoutBounds.j2
      repeat' first
      | (with_reducible exact ih0 _ _ _ _ _ _ _ _)
      | (with_reducible exact ih1 _ _ _ _ _)
      | (with_reducible exact ih2 _ _ _ _ _)
      | (with_reducible exact metrolablaw38_right.mono _ _ _ _)
      | (with_reducible exact runout_Circular.mono _ _ _ _ _)
      | (with_reducible exact runout_Least.mono _ _ _ _)
      | (with_reducible exact runout_Total.mono _ _ _ _ _)
      | (with_reducible exact LeO.refl _)
      | (with_reducible exact LeO.none _)
      | (with_reducible refine LeO.ite ?_ ?_)
      | (with_reducible refine LeO.bind ?_ (fun _ => ?_))
      | exact ih0 _ _ _ _ _ _ _ _
      | exact ih1 _ _ _ _ _
      | exact ih2 _ _ _ _ _
      | exact metrolablaw38_right.mono _ _ _ _
      | exact runout_Circular.mono _ _ _ _ _
      | exact runout_Least.mono _ _ _ _
      | exact runout_Total.mono _ _ _ _ _
      | exact LeO.none _
      | refine LeO.ite ?_ ?_
      | refine LeO.bind ?_ (fun _ => ?_)
theorem metrolablaw38_RunoutBounds.mono : ∀ a0 a1 a2 a3 k, LeO (metrolablaw38_RunoutBounds.f k a0 a1 a2 a3) (metrolablaw38_RunoutBounds.f (k + 1) a0 a1 a2 a3) := by
  intro a0 a1 a2 a3 k
  obtain ⟨ih0, ih1, ih2⟩ := metrolablaw38_RunoutBounds.mono_l k
  unfold metrolablaw38_RunoutBounds.f
  repeat' first
      | (with_reducible exact ih0 _ _ _ _ _ _ _ _)
      | (with_reducible exact ih1 _ _ _ _ _)
      | (with_reducible exact ih2 _ _ _ _ _)
      | (with_reducible exact metrolablaw38_right.mono _ _ _ _)
      | (with_reducible exact runout_Circular.mono _ _ _ _ _)
      | (with_reducible exact runout_Least.mono _ _ _ _)
      | (with_reducible exact runout_Total.mono _ _ _ _ _)
      | (with_reducible exact LeO.refl _)
      | (with_reducible exact LeO.none _)
      | (with_reducible refine LeO.ite ?_ ?_)
      | (with_reducible refine LeO.bind ?_ (fun _ => ?_))
      | exact ih0 _ _ _ _ _ _ _ _
      | exact ih1 _ _ _ _ _
      | exact ih2 _ _ _ _ _
      | exact metrolablaw38_right.mono _ _ _ _
      | exact runout_Circular.mono _ _ _ _ _
      | exact runout_Least.mono _ _ _ _
      | exact runout_Total.mono _ _ _ _ _
      | exact LeO.none _
      | refine LeO.ite ?_ ?_
      | refine LeO.bind ?_ (fun _ => ?_)
set_option maxHeartbeats 8000000 in
set_option maxRecDepth 100000 in
theorem metrolablaw38_RunoutBounds.calls (k : Nat) (A0 : Option Addr) (c0 : Nat) (l0 : List (S62)) (a1_0 : Int) (a1_1 : Int) (a2 : Int) (r : Bool) (w : World) (hr0 : Kd.C k62 w A0 l0.length l0) (hc0 : l0.length ≤ c0) (h : metrolablaw38_RunoutBounds.f k l0 a1_0 a1_1 a2 = some r) :
    Calls Try.prog 6 #[.slice A0 l0.length c0, .agg #[.int .i64 a1_0, .int .i64 a1_1], .int .u16 a2] w fun e w' => e = .returned (.bool r) ∧ Below w.heap.size w w' := by
  have hu25 := Try.underlying25
  have HR0 := Aside0.mk hr0
  have HC0 := Aside0.mk hc0
  clear hr0 hc0
  have HB := Aside0.mk (Below.refl w.heap.size w)
  have H : ((metrolablaw38_right.f k l0 a1_0 a1_1).bind fun t386 => (if t386 = true then ((runout_Least.f k l0 a1_0 a1_1).bind fun bt388 => ((runout_Total.f k l0 a1_0 a1_1 (wrap64 (a2))).bind fun bt390 => ((runout_Circular.f k l0 a1_0 a1_1 (wrap64 (a2))).bind fun bt392 => (if (wrap64 ((wrap64 (bt388.2 + bt390.2)) + bt392.2.2)) = 0 then (if bt388.1 < 0 then (metrolablaw38_RunoutBounds.j0 k l0 a2 bt388.1 bt390.1 bt392.1 true a1_0 a1_1) else (if (bt390.1 != (decide ((wrap64 (a2)) ≥ bt388.1))) = true then (metrolablaw38_RunoutBounds.j0 k l0 a2 bt388.1 bt390.1 bt392.1 true a1_0 a1_1) else (if bt390.1 = true then (if bt392.1 = true then (metrolablaw38_RunoutBounds.j0 k l0 a2 bt388.1 bt390.1 bt392.1 (bt392.1 != (bt392.2.1 == (l0.length : Int))) a1_0 a1_1) else (metrolablaw38_RunoutBounds.j0 k l0 a2 bt388.1 bt390.1 bt392.1 true a1_0 a1_1)) else (metrolablaw38_RunoutBounds.j0 k l0 a2 bt388.1 bt390.1 bt392.1 (bt392.1 != (bt392.2.1 == (l0.length : Int))) a1_0 a1_1)))) else (metrolablaw38_RunoutBounds.j0 k l0 a2 bt388.1 bt390.1 bt392.1 true a1_0 a1_1))))) else ((metrolablaw38_awake.f).bind fun t387 => (some t387)))) = some r := h
  clear h
  replace H := Option.bind_eq_some_iff.mp H
  obtain ⟨t386, A40, H⟩ := H
  replace H : (if t386 = true then ((runout_Least.f k l0 a1_0 a1_1).bind fun bt388 => ((runout_Total.f k l0 a1_0 a1_1 (wrap64 (a2))).bind fun bt390 => ((runout_Circular.f k l0 a1_0 a1_1 (wrap64 (a2))).bind fun bt392 => (if (wrap64 ((wrap64 (bt388.2 + bt390.2)) + bt392.2.2)) = 0 then (if bt388.1 < 0 then (metrolablaw38_RunoutBounds.j0 k l0 a2 bt388.1 bt390.1 bt392.1 true a1_0 a1_1) else (if (bt390.1 != (decide ((wrap64 (a2)) ≥ bt388.1))) = true then (metrolablaw38_RunoutBounds.j0 k l0 a2 bt388.1 bt390.1 bt392.1 true a1_0 a1_1) else (if bt390.1 = true then (if bt392.1 = true then (metrolablaw38_RunoutBounds.j0 k l0 a2 bt388.1 bt390.1 bt392.1 (bt392.1 != (bt392.2.1 == (l0.length : Int))) a1_0 a1_1) else (metrolablaw38_RunoutBounds.j0 k l0 a2 bt388.1 bt390.1 bt392.1 true a1_0 a1_1)) else (metrolablaw38_RunoutBounds.j0 k l0 a2 bt388.1 bt390.1 bt392.1 (bt392.1 != (bt392.2.1 == (l0.length : Int))) a1_0 a1_1)))) else (metrolablaw38_RunoutBounds.j0 k l0 a2 bt388.1 bt390.1 bt392.1 true a1_0 a1_1))))) else ((metrolablaw38_awake.f).bind fun t387 => (some t387))) = some r := H
  have A4 := Aside0.mk A40
  clear A40
  by_cases c5 : t386 = true
  · subst c5
    have H1 : ((runout_Least.f k l0 a1_0 a1_1).bind fun bt388 => ((runout_Total.f k l0 a1_0 a1_1 (wrap64 (a2))).bind fun bt390 => ((runout_Circular.f k l0 a1_0 a1_1 (wrap64 (a2))).bind fun bt392 => (if (wrap64 ((wrap64 (bt388.2 + bt390.2)) + bt392.2.2)) = 0 then (if bt388.1 < 0 then (metrolablaw38_RunoutBounds.j0 k l0 a2 bt388.1 bt390.1 bt392.1 true a1_0 a1_1) else (if (bt390.1 != (decide ((wrap64 (a2)) ≥ bt388.1))) = true then (metrolablaw38_RunoutBounds.j0 k l0 a2 bt388.1 bt390.1 bt392.1 true a1_0 a1_1) else (if bt390.1 = true then (if bt392.1 = true then (metrolablaw38_RunoutBounds.j0 k l0 a2 bt388.1 bt390.1 bt392.1 (bt392.1 != (bt392.2.1 == (l0.length : Int))) a1_0 a1_1) else (metrolablaw38_RunoutBounds.j0 k l0 a2 bt388.1 bt390.1 bt392.1 true a1_0 a1_1)) else (metrolablaw38_RunoutBounds.j0 k l0 a2 bt388.1 bt390.1 bt392.1 (bt392.1 != (bt392.2.1 == (l0.length : Int))) a1_0 a1_1)))) else (metrolablaw38_RunoutBounds.j0 k l0 a2 bt388.1 bt390.1 bt392.1 true a1_0 a1_1))))) = some r := by rw [if_pos rfl] at H; exact H
    clear H
    have H := H1
    clear H1
    replace H := Option.bind_eq_some_iff.mp H
    obtain ⟨⟨t388, t389⟩, A60, H⟩ := H
    replace H : ((runout_Total.f k l0 a1_0 a1_1 (wrap64 (a2))).bind fun bt390 => ((runout_Circular.f k l0 a1_0 a1_1 (wrap64 (a2))).bind fun bt392 => (if (wrap64 ((wrap64 (t389 + bt390.2)) + bt392.2.2)) = 0 then (if t388 < 0 then (metrolablaw38_RunoutBounds.j0 k l0 a2 t388 bt390.1 bt392.1 true a1_0 a1_1) else (if (bt390.1 != (decide ((wrap64 (a2)) ≥ t388))) = true then (metrolablaw38_RunoutBounds.j0 k l0 a2 t388 bt390.1 bt392.1 true a1_0 a1_1) else (if bt390.1 = true then (if bt392.1 = true then (metrolablaw38_RunoutBounds.j0 k l0 a2 t388 bt390.1 bt392.1 (bt392.1 != (bt392.2.1 == (l0.length : Int))) a1_0 a1_1) else (metrolablaw38_RunoutBounds.j0 k l0 a2 t388 bt390.1 bt392.1 true a1_0 a1_1)) else (metrolablaw38_RunoutBounds.j0 k l0 a2 t388 bt390.1 bt392.1 (bt392.1 != (bt392.2.1 == (l0.length : Int))) a1_0 a1_1)))) else (metrolablaw38_RunoutBounds.j0 k l0 a2 t388 bt390.1 bt392.1 true a1_0 a1_1)))) = some r := H
    have A6 := Aside0.mk A60
    clear A60
    replace H := Option.bind_eq_some_iff.mp H
    obtain ⟨⟨t390, t391⟩, A70, H⟩ := H
    replace H : ((runout_Circular.f k l0 a1_0 a1_1 (wrap64 (a2))).bind fun bt392 => (if (wrap64 ((wrap64 (t389 + t391)) + bt392.2.2)) = 0 then (if t388 < 0 then (metrolablaw38_RunoutBounds.j0 k l0 a2 t388 t390 bt392.1 true a1_0 a1_1) else (if (t390 != (decide ((wrap64 (a2)) ≥ t388))) = true then (metrolablaw38_RunoutBounds.j0 k l0 a2 t388 t390 bt392.1 true a1_0 a1_1) else (if t390 = true then (if bt392.1 = true then (metrolablaw38_RunoutBounds.j0 k l0 a2 t388 t390 bt392.1 (bt392.1 != (bt392.2.1 == (l0.length : Int))) a1_0 a1_1) else (metrolablaw38_RunoutBounds.j0 k l0 a2 t388 t390 bt392.1 true a1_0 a1_1)) else (metrolablaw38_RunoutBounds.j0 k l0 a2 t388 t390 bt392.1 (bt392.1 != (bt392.2.1 == (l0.length : Int))) a1_0 a1_1)))) else (metrolablaw38_RunoutBounds.j0 k l0 a2 t388 t390 bt392.1 true a1_0 a1_1))) = some r := H
    have A7 := Aside0.mk A70
    clear A70
    replace H := Option.bind_eq_some_iff.mp H
    obtain ⟨⟨t392, t393, t394⟩, A80, H⟩ := H
    replace H : (if (wrap64 ((wrap64 (t389 + t391)) + t394)) = 0 then (if t388 < 0 then (metrolablaw38_RunoutBounds.j0 k l0 a2 t388 t390 t392 true a1_0 a1_1) else (if (t390 != (decide ((wrap64 (a2)) ≥ t388))) = true then (metrolablaw38_RunoutBounds.j0 k l0 a2 t388 t390 t392 true a1_0 a1_1) else (if t390 = true then (if t392 = true then (metrolablaw38_RunoutBounds.j0 k l0 a2 t388 t390 t392 (t392 != (t393 == (l0.length : Int))) a1_0 a1_1) else (metrolablaw38_RunoutBounds.j0 k l0 a2 t388 t390 t392 true a1_0 a1_1)) else (metrolablaw38_RunoutBounds.j0 k l0 a2 t388 t390 t392 (t392 != (t393 == (l0.length : Int))) a1_0 a1_1)))) else (metrolablaw38_RunoutBounds.j0 k l0 a2 t388 t390 t392 true a1_0 a1_1)) = some r := H
    have A8 := Aside0.mk A80
    clear A80
    have HC9 := Aside0.mk H
    clear H
    go_enter Try.func6, Try.ntmps6
    go_upto_region 6 with (first | ((with_reducible refine gate_dst (N := 4) rfl ?_); (try (refine gate_guard (by rfl) ?_; dsimp only)); refine box_event ?hg (N := 4) ?hd (cs := #[.int .i64 a1_0, .int .i64 a1_1]) (t := 25) ?hr ?_; (case hd => rfl); (case hg => rfl); (case hr => first | (go_simp; done) | (go_simp; rfl)); intro gb385 hg w10 hbox hb; have n0_ := Aside0.mk (below_step (by repeat (first | (with_reducible first | exact HB.out | apply below_alloc | apply pw_below_drewN | apply below_drew1) | exact HB.out)) hb); have n1_ := Aside0.mk (hbox); have n2_ := Aside0.mk ((by rw [hg]; exact (below_size (by repeat (first | (with_reducible first | exact HB.out | apply below_alloc | apply pw_below_drewN | apply below_drew1) | exact HB.out))) : w.heap.size ≤ gb385)); have n3_ := Aside0.mk ((by rw [hg]; exact (below_size (by repeat (first | (with_reducible first | exact HB.out | apply below_alloc | apply pw_below_drewN | apply below_drew1) | exact HB.out))) : w.heap.size ≤ gb385)); clear HB; have HB := n0_; have BK385 := n1_; have GW385 := n2_; have GE385 := n3_; clear n0_ n1_ n2_ n3_; clear hb hbox hg; have hcz11_0 : w10.cell? ⟨gb385, 0, none⟩ = some (.int .i64 a1_0) := (blk_cell BK385.out 0).trans rfl; have hcz11_1 : w10.cell? ⟨gb385, 1, none⟩ = some (.int .i64 a1_1) := (blk_cell BK385.out 1).trans rfl; have hfz11_0 := blk_frozen BK385.out 0; have hfz11_1 := blk_frozen BK385.out 1) | ((with_reducible refine gate_callee (f := 26) rfl ?_); refine goesL_ (some 22) rfl rfl Try.func26 (by kernel_rfl) rfl #[.slice A0 l0.length c0, .agg #[.int .i64 a1_0, .int .i64 a1_1]] rfl (by (try simp only [List.map_toArray, List.map_cons, List.map_nil]); first | done | rfl | (simp only [List.length_drop, List.length_take]; rfl)) ?_; (with_reducible refine (metrolablaw38_right.calls k _ _ l0 a1_0 a1_1 true _ ?side1 ?side2 A4.out).mono ?_); (case side1 => repeat (first | exact (Kd.C_below HR0.out HB.out) | (with_reducible refine Kd.C_alloc ?_ _) | (with_reducible refine Kd.C_drewN ?_ _) | (with_reducible refine Kd.C_drew ?_))); (case side2 => exact HC0.out); rintro e w12 ⟨rfl, hb⟩; refine ⟨_, rfl, ?_⟩; have n0_ := Aside0.mk (blk_below (g := gb385) (o := .cells #[.int .i64 a1_0, .int .i64 a1_1] 25 (0, 0)) (by (with_reducible repeat (first | refine blk_drewN ?_ _ | refine blk_drew ?_ | refine blk_alloc ?_ _)); exact BK385.out) hb); have n1_ := Aside0.mk (below_step (by repeat (first | (with_reducible first | exact HB.out | apply below_alloc | apply pw_below_drewN | apply below_drew1 | refine below_set ?_ GE385.out) | exact HB.out)) hb); clear BK385; clear HB; have BK385 := n0_; have HB := n1_; clear n0_ n1_; (try clear hb); (try clear hb2); (try clear hk); (try clear hi); have hcz13_0 : w12.cell? ⟨gb385, 0, none⟩ = some (.int .i64 a1_0) := (blk_cell BK385.out 0).trans rfl; have hcz13_1 : w12.cell? ⟨gb385, 1, none⟩ = some (.int .i64 a1_1) := (blk_cell BK385.out 1).trans rfl; have hfz13_0 := blk_frozen BK385.out 0; have hfz13_1 := blk_frozen BK385.out 1) | ((with_reducible refine gate_callee (f := 24) rfl ?_); refine goesL_ (some 28) rfl rfl Try.func24 (by kernel_rfl) rfl #[.slice A0 l0.length c0, .agg #[.int .i64 a1_0, .int .i64 a1_1]] rfl (by (try simp only [List.map_toArray, List.map_cons, List.map_nil]); first | done | rfl | (simp only [List.length_drop, List.length_take]; rfl)) ?_; (with_reducible refine (runout_Least.calls k _ _ l0 a1_0 a1_1 t388 t389 _ ?side1 ?side2 A6.out).mono ?_); (case side1 => repeat (first | exact (Kd.C_below HR0.out HB.out) | (with_reducible refine Kd.C_alloc ?_ _) | (with_reducible refine Kd.C_drewN ?_ _) | (with_reducible refine Kd.C_drew ?_))); (case side2 => exact HC0.out); rintro e w14 ⟨rfl, hb⟩; refine ⟨_, rfl, ?_⟩; have n0_ := Aside0.mk (blk_below (g := gb385) (o := .cells #[.int .i64 a1_0, .int .i64 a1_1] 25 (0, 0)) (by (with_reducible repeat (first | refine blk_drewN ?_ _ | refine blk_drew ?_ | refine blk_alloc ?_ _)); exact BK385.out) hb); have n1_ := Aside0.mk (below_step (by repeat (first | (with_reducible first | exact HB.out | apply below_alloc | apply pw_below_drewN | apply below_drew1 | refine below_set ?_ GE385.out) | exact HB.out)) hb); clear BK385; clear HB; have BK385 := n0_; have HB := n1_; clear n0_ n1_; (try clear hb); (try clear hb2); (try clear hk); (try clear hi); have hcz15_0 : w14.cell? ⟨gb385, 0, none⟩ = some (.int .i64 a1_0) := (blk_cell BK385.out 0).trans rfl; have hcz15_1 : w14.cell? ⟨gb385, 1, none⟩ = some (.int .i64 a1_1) := (blk_cell BK385.out 1).trans rfl; have hfz15_0 := blk_frozen BK385.out 0; have hfz15_1 := blk_frozen BK385.out 1) | ((with_reducible refine gate_callee (f := 22) rfl ?_); refine goesL_ (some 36) rfl rfl Try.func22 (by kernel_rfl) rfl #[.slice A0 l0.length c0, .agg #[.int .i64 a1_0, .int .i64 a1_1], .int .i64 (wrap64 (a2))] rfl (by (try simp only [List.map_toArray, List.map_cons, List.map_nil]); first | done | rfl | (simp only [List.length_drop, List.length_take]; rfl)) ?_; (with_reducible refine (runout_Total.calls k _ _ l0 a1_0 a1_1 (wrap64 (a2)) t390 t391 _ ?side1 ?side2 A7.out).mono ?_); (case side1 => repeat (first | exact (Kd.C_below HR0.out HB.out) | (with_reducible refine Kd.C_alloc ?_ _) | (with_reducible refine Kd.C_drewN ?_ _) | (with_reducible refine Kd.C_drew ?_))); (case side2 => exact HC0.out); rintro e w16 ⟨rfl, hb⟩; refine ⟨_, rfl, ?_⟩; have n0_ := Aside0.mk (blk_below (g := gb385) (o := .cells #[.int .i64 a1_0, .int .i64 a1_1] 25 (0, 0)) (by (with_reducible repeat (first | refine blk_drewN ?_ _ | refine blk_drew ?_ | refine blk_alloc ?_ _)); exact BK385.out) hb); have n1_ := Aside0.mk (below_step (by repeat (first | (with_reducible first | exact HB.out | apply below_alloc | apply pw_below_drewN | apply below_drew1 | refine below_set ?_ GE385.out) | exact HB.out)) hb); clear BK385; clear HB; have BK385 := n0_; have HB := n1_; clear n0_ n1_; (try clear hb); (try clear hb2); (try clear hk); (try clear hi); have hcz17_0 : w16.cell? ⟨gb385, 0, none⟩ = some (.int .i64 a1_0) := (blk_cell BK385.out 0).trans rfl; have hcz17_1 : w16.cell? ⟨gb385, 1, none⟩ = some (.int .i64 a1_1) := (blk_cell BK385.out 1).trans rfl; have hfz17_0 := blk_frozen BK385.out 0; have hfz17_1 := blk_frozen BK385.out 1) | ((with_reducible refine gate_callee (f := 20) rfl ?_); refine goesL_ (some 44) rfl rfl Try.func20 (by kernel_rfl) rfl #[.slice A0 l0.length c0, .agg #[.int .i64 a1_0, .int .i64 a1_1], .int .i64 (wrap64 (a2))] rfl (by (try simp only [List.map_toArray, List.map_cons, List.map_nil]); first | done | rfl | (simp only [List.length_drop, List.length_take]; rfl)) ?_; (with_reducible refine (runout_Circular.calls k _ _ l0 a1_0 a1_1 (wrap64 (a2)) t392 t393 t394 _ ?side1 ?side2 A8.out).mono ?_); (case side1 => repeat (first | exact (Kd.C_below HR0.out HB.out) | (with_reducible refine Kd.C_alloc ?_ _) | (with_reducible refine Kd.C_drewN ?_ _) | (with_reducible refine Kd.C_drew ?_))); (case side2 => exact HC0.out); rintro e w18 ⟨rfl, hb⟩; refine ⟨_, rfl, ?_⟩; have n0_ := Aside0.mk (blk_below (g := gb385) (o := .cells #[.int .i64 a1_0, .int .i64 a1_1] 25 (0, 0)) (by (with_reducible repeat (first | refine blk_drewN ?_ _ | refine blk_drew ?_ | refine blk_alloc ?_ _)); exact BK385.out) hb); have n1_ := Aside0.mk (below_step (by repeat (first | (with_reducible first | exact HB.out | apply below_alloc | apply pw_below_drewN | apply below_drew1 | refine below_set ?_ GE385.out) | exact HB.out)) hb); clear BK385; clear HB; have BK385 := n0_; have HB := n1_; clear n0_ n1_; (try clear hb); (try clear hb2); (try clear hk); (try clear hi)))
    (try simp only [Act.put, List.setIfInBounds_toArray, List.set_cons_zero, List.set_cons_succ])
    go_cut [80] (fun v80 wc => ∃ (kq : Nat) (x80_8 : Bool), v80 = .bool x80_8 ∧ Aside0 (metrolablaw38_RunoutBounds.j0 kq l0 a2 t388 t390 t392 x80_8 a1_0 a1_1 = some r) ∧ Aside0 (kq ≤ k) ∧ Aside0 (wc.heap[gb385]? = some (.cells #[.int .i64 a1_0, .int .i64 a1_1] 25 (0, 0))) ∧ Aside0 (Below w.heap.size w wc))
    case first =>
      have H := HC9.out
      clear HC9
      by_cases c19 : (wrap64 ((wrap64 (t389 + t391)) + t394)) = 0
      · rw [if_pos c19] at H
        have c19b0 : ((wrap64 ((wrap64 (t389 + t391)) + t394)) == 0) = true := beq_iff_eq.mpr c19
        have c19b1 : ((wrap64 ((wrap64 (t389 + t391)) + t394)) != 0) = false := bne_eq_false_iff_eq.mpr c19
        clear c19
        (first | rw [c19b0] | (simp only [i64_w, i32_w]; rw [c19b0]) | skip)
        by_cases c20 : t388 < 0
        · rw [if_pos c20] at H
          have c20b0 : decide (t388 < 0) = true := decide_eq_true c20
          clear c20
          have H' := Aside0.mk H
          clear H
          go_wp2
          go_meet
          case rel => exact ⟨_, (true), (by first | rfl | (simp; done) | (simp [*]; done)), H', ⟨by first | omega | exact Nat.le_refl _⟩, ⟨by (with_reducible repeat (first | refine blk_drewN ?_ _ | refine blk_drew ?_ | refine blk_alloc ?_ _)); exact BK385.out⟩, ⟨by repeat (first | (with_reducible first | exact HB.out | apply below_alloc | apply pw_below_drewN | apply below_drew1 | refine below_set ?_ GE385.out) | exact HB.out)⟩⟩
        · rw [if_neg c20] at H
          have c20b0 : decide (t388 < 0) = false := decide_eq_false c20
          clear c20
          by_cases c21 : (t390 != (decide ((wrap64 (a2)) ≥ t388))) = true
          · rw [if_pos c21] at H
            have c21b0 : (t390 != (decide ((wrap64 (a2)) ≥ t388))) = true := c21
            (try (have c21b1 : decide (t390 = (decide ((wrap64 (a2)) ≥ t388))) = false := by simpa using c21))
            (try (have c21b2 : (t390 == (decide ((wrap64 (a2)) ≥ t388))) = false := by simpa using c21))
            (try (have c21b3 : ¬ (t390 = (decide ((wrap64 (a2)) ≥ t388))) := by simpa using c21))
            clear c21
            have H' := Aside0.mk H
            clear H
            go_wp2
            go_meet
            case rel => exact ⟨_, (true), (by first | rfl | (simp; done) | (simp [*]; done)), H', ⟨by first | omega | exact Nat.le_refl _⟩, ⟨by (with_reducible repeat (first | refine blk_drewN ?_ _ | refine blk_drew ?_ | refine blk_alloc ?_ _)); exact BK385.out⟩, ⟨by repeat (first | (with_reducible first | exact HB.out | apply below_alloc | apply pw_below_drewN | apply below_drew1 | refine below_set ?_ GE385.out) | exact HB.out)⟩⟩
          · rw [if_neg c21] at H
            have c21b0 : (t390 != (decide ((wrap64 (a2)) ≥ t388))) = false := by simpa using c21
            (try (have c21b1 : decide (t390 = (decide ((wrap64 (a2)) ≥ t388))) = true := by simpa using c21))
            (try (have c21b2 : (t390 == (decide ((wrap64 (a2)) ≥ t388))) = true := by simpa using c21))
            clear c21
            by_cases c22 : t390 = true
            · subst c22
              have H1 : (if t392 = true then (metrolablaw38_RunoutBounds.j0 k l0 a2 t388 true t392 (t392 != (t393 == (l0.length : Int))) a1_0 a1_1) else (metrolablaw38_RunoutBounds.j0 k l0 a2 t388 true t392 true a1_0 a1_1)) = some r := by rw [if_pos rfl] at H; exact H
              clear H
              have H := H1
              clear H1
              by_cases c23 : t392 = true
              · subst c23
                have H1 : (metrolablaw38_RunoutBounds.j0 k l0 a2 t388 true true (true != (t393 == (l0.length : Int))) a1_0 a1_1) = some r := by rw [if_pos rfl] at H; exact H
                clear H
                have H := H1
                clear H1
                have H' := Aside0.mk H
                clear H
                go_wp2
                go_meet
                case rel => exact ⟨_, ((true != (t393 == (l0.length : Int)))), (by first | rfl | (simp; done) | (simp [*]; done)), H', ⟨by first | omega | exact Nat.le_refl _⟩, ⟨by (with_reducible repeat (first | refine blk_drewN ?_ _ | refine blk_drew ?_ | refine blk_alloc ?_ _)); exact BK385.out⟩, ⟨by repeat (first | (with_reducible first | exact HB.out | apply below_alloc | apply pw_below_drewN | apply below_drew1 | refine below_set ?_ GE385.out) | exact HB.out)⟩⟩
              · replace c23 := Bool.eq_false_iff.mpr c23
                subst c23
                have H1 : (metrolablaw38_RunoutBounds.j0 k l0 a2 t388 true false true a1_0 a1_1) = some r := by rw [if_neg (show ¬ (false = true) by decide)] at H; exact H
                clear H
                have H := H1
                clear H1
                have H' := Aside0.mk H
                clear H
                go_wp2
                go_meet
                case rel => exact ⟨_, (true), (by first | rfl | (simp; done) | (simp [*]; done)), H', ⟨by first | omega | exact Nat.le_refl _⟩, ⟨by (with_reducible repeat (first | refine blk_drewN ?_ _ | refine blk_drew ?_ | refine blk_alloc ?_ _)); exact BK385.out⟩, ⟨by repeat (first | (with_reducible first | exact HB.out | apply below_alloc | apply pw_below_drewN | apply below_drew1 | refine below_set ?_ GE385.out) | exact HB.out)⟩⟩
            · replace c22 := Bool.eq_false_iff.mpr c22
              subst c22
              have H1 : (metrolablaw38_RunoutBounds.j0 k l0 a2 t388 false t392 (t392 != (t393 == (l0.length : Int))) a1_0 a1_1) = some r := by rw [if_neg (show ¬ (false = true) by decide)] at H; exact H
              clear H
              have H := H1
              clear H1
              have H' := Aside0.mk H
              clear H
              go_wp2
              go_meet
              case rel => exact ⟨_, ((t392 != (t393 == (l0.length : Int)))), (by first | rfl | (simp; done) | (simp [*]; done)), H', ⟨by first | omega | exact Nat.le_refl _⟩, ⟨by (with_reducible repeat (first | refine blk_drewN ?_ _ | refine blk_drew ?_ | refine blk_alloc ?_ _)); exact BK385.out⟩, ⟨by repeat (first | (with_reducible first | exact HB.out | apply below_alloc | apply pw_below_drewN | apply below_drew1 | refine below_set ?_ GE385.out) | exact HB.out)⟩⟩
      · rw [if_neg c19] at H
        have c19b0 : ((wrap64 ((wrap64 (t389 + t391)) + t394)) == 0) = false := beq_eq_false_iff_ne.mpr c19
        have c19b1 : ((wrap64 ((wrap64 (t389 + t391)) + t394)) != 0) = true := bne_iff_ne.mpr c19
        (first | rw [c19b0] | (simp only [i64_w, i32_w]; rw [c19b0]) | skip)
        have H' := Aside0.mk H
        clear H
        go_wp2
        go_meet
        case rel => exact ⟨_, (true), (by first | rfl | (simp; done) | (simp [*]; done)), H', ⟨by first | omega | exact Nat.le_refl _⟩, ⟨by (with_reducible repeat (first | refine blk_drewN ?_ _ | refine blk_drew ?_ | refine blk_alloc ?_ _)); exact BK385.out⟩, ⟨by repeat (first | (with_reducible first | exact HB.out | apply below_alloc | apply pw_below_drewN | apply below_drew1 | refine below_set ?_ GE385.out) | exact HB.out)⟩⟩
    case rest =>
      clear HC9
      try clear c1
      try clear c2
      try clear p2
      try clear c5
      try clear c6
      try clear p6
      try clear c19
      try clear c19b0
      try clear c19b1
      try clear c20
      try clear c20b0
      try clear c21
      try clear c21b0
      try clear c21b1
      try clear c21b2
      try clear c22
      try clear c23
      try clear hcz11_0
      try clear hcz11_1
      try clear hcz13_0
      try clear hcz13_1
      try clear hcz15_0
      try clear hcz15_1
      try clear hcz17_0
      try clear hcz17_1
      try clear hfz11_0
      try clear hfz11_1
      try clear hfz13_0
      try clear hfz13_1
      try clear hfz15_0
      try clear hfz15_1
      try clear hfz17_0
      try clear hfz17_1
      obtain ⟨kq, x80_8, rfl, HA, HJ8, BK385, HB⟩ := hcut
      cases kq with
      | zero => exact absurd HA.out (by simp [metrolablaw38_RunoutBounds.j0])
      | succ kj8 =>
        have H := HA.out
        clear HA
        simp only [metrolablaw38_RunoutBounds.j0] at H
        by_cases c24 : x80_8 = true
        · subst c24
          have H1 : (some false) = some r := by rw [if_pos rfl] at H; exact H
          clear H
          have H := H1
          clear H1
          obtain rfl := Option.some.inj H
          go_wp2
          go_ret
          exact ⟨by first | rfl | (simp [errW_none, errW_some] <;> rfl) | (simp [*, errW_none, errW_some] <;> rfl), by repeat (first | (with_reducible first | exact HB.out | apply below_alloc | apply pw_below_drewN | apply below_drew1 | refine below_set ?_ GE385.out) | exact HB.out)⟩
        · replace c24 := Bool.eq_false_iff.mpr c24
          subst c24
          have H1 : ((runout_Total.f kj8 l0 a1_0 a1_1 (wrap64 ((wrap64 (a2)) + 1))).bind fun bt395 => ((runout_Circular.f kj8 l0 a1_0 a1_1 (wrap64 ((wrap64 (a2)) + 1))).bind fun bt397 => (if (wrap64 (bt395.2 + bt397.2.2)) = 0 then (if t390 = true then (if bt395.1 = true then (if t392 = true then (metrolablaw38_RunoutBounds.j1 kj8 l0 t388 (!bt397.1) a1_0 a1_1) else (metrolablaw38_RunoutBounds.j1 kj8 l0 t388 false a1_0 a1_1)) else (metrolablaw38_RunoutBounds.j1 kj8 l0 t388 true a1_0 a1_1)) else (if t392 = true then (metrolablaw38_RunoutBounds.j1 kj8 l0 t388 (!bt397.1) a1_0 a1_1) else (metrolablaw38_RunoutBounds.j1 kj8 l0 t388 false a1_0 a1_1))) else (metrolablaw38_RunoutBounds.j1 kj8 l0 t388 true a1_0 a1_1)))) = some r := by rw [if_neg (show ¬ (false = true) by decide)] at H; exact H
          clear H
          have H := H1
          clear H1
          replace H := Option.bind_eq_some_iff.mp H
          obtain ⟨⟨t395, t396⟩, A250, H⟩ := H
          replace H : ((runout_Circular.f kj8 l0 a1_0 a1_1 (wrap64 ((wrap64 (a2)) + 1))).bind fun bt397 => (if (wrap64 (t396 + bt397.2.2)) = 0 then (if t390 = true then (if t395 = true then (if t392 = true then (metrolablaw38_RunoutBounds.j1 kj8 l0 t388 (!bt397.1) a1_0 a1_1) else (metrolablaw38_RunoutBounds.j1 kj8 l0 t388 false a1_0 a1_1)) else (metrolablaw38_RunoutBounds.j1 kj8 l0 t388 true a1_0 a1_1)) else (if t392 = true then (metrolablaw38_RunoutBounds.j1 kj8 l0 t388 (!bt397.1) a1_0 a1_1) else (metrolablaw38_RunoutBounds.j1 kj8 l0 t388 false a1_0 a1_1))) else (metrolablaw38_RunoutBounds.j1 kj8 l0 t388 true a1_0 a1_1))) = some r := H
          have A25 := Aside0.mk A250
          clear A250
          replace H := Option.bind_eq_some_iff.mp H
          obtain ⟨⟨t397, t398, t399⟩, A260, H⟩ := H
          replace H : (if (wrap64 (t396 + t399)) = 0 then (if t390 = true then (if t395 = true then (if t392 = true then (metrolablaw38_RunoutBounds.j1 kj8 l0 t388 (!t397) a1_0 a1_1) else (metrolablaw38_RunoutBounds.j1 kj8 l0 t388 false a1_0 a1_1)) else (metrolablaw38_RunoutBounds.j1 kj8 l0 t388 true a1_0 a1_1)) else (if t392 = true then (metrolablaw38_RunoutBounds.j1 kj8 l0 t388 (!t397) a1_0 a1_1) else (metrolablaw38_RunoutBounds.j1 kj8 l0 t388 false a1_0 a1_1))) else (metrolablaw38_RunoutBounds.j1 kj8 l0 t388 true a1_0 a1_1)) = some r := H
          have A26 := Aside0.mk A260
          clear A260
          have HC27 := Aside0.mk H
          clear H
          have hcz28_0 : wc.cell? ⟨gb385, 0, none⟩ = some (.int .i64 a1_0) := (blk_cell BK385.out 0).trans rfl
          have hcz28_1 : wc.cell? ⟨gb385, 1, none⟩ = some (.int .i64 a1_1) := (blk_cell BK385.out 1).trans rfl
          have hfz28_0 := blk_frozen BK385.out 0
          have hfz28_1 := blk_frozen BK385.out 1
          go_upto_region 10 with (first | ((with_reducible refine gate_callee (f := 22) rfl ?_); refine goesL_ (some 87) rfl rfl Try.func22 (by kernel_rfl) rfl #[.slice A0 l0.length c0, .agg #[.int .i64 a1_0, .int .i64 a1_1], .int .i64 (wrap64 ((wrap64 (a2)) + 1))] rfl (by (try simp only [List.map_toArray, List.map_cons, List.map_nil]); first | done | rfl | (simp only [List.length_drop, List.length_take]; rfl)) ?_; (with_reducible refine (runout_Total.calls kj8 _ _ l0 a1_0 a1_1 (wrap64 ((wrap64 (a2)) + 1)) t395 t396 _ ?side1 ?side2 A25.out).mono ?_); (case side1 => repeat (first | exact (Kd.C_below HR0.out HB.out) | (with_reducible refine Kd.C_alloc ?_ _) | (with_reducible refine Kd.C_drewN ?_ _) | (with_reducible refine Kd.C_drew ?_))); (case side2 => exact HC0.out); rintro e w29 ⟨rfl, hb⟩; refine ⟨_, rfl, ?_⟩; have n0_ := Aside0.mk (blk_below (g := gb385) (o := .cells #[.int .i64 a1_0, .int .i64 a1_1] 25 (0, 0)) (by (with_reducible repeat (first | refine blk_drewN ?_ _ | refine blk_drew ?_ | refine blk_alloc ?_ _)); exact BK385.out) hb); have n1_ := Aside0.mk (below_step (by repeat (first | (with_reducible first | exact HB.out | apply below_alloc | apply pw_below_drewN | apply below_drew1 | refine below_set ?_ GE385.out) | exact HB.out)) hb); clear BK385; clear HB; have BK385 := n0_; have HB := n1_; clear n0_ n1_; (try clear hb); (try clear hb2); (try clear hk); (try clear hi); have hcz30_0 : w29.cell? ⟨gb385, 0, none⟩ = some (.int .i64 a1_0) := (blk_cell BK385.out 0).trans rfl; have hcz30_1 : w29.cell? ⟨gb385, 1, none⟩ = some (.int .i64 a1_1) := (blk_cell BK385.out 1).trans rfl; have hfz30_0 := blk_frozen BK385.out 0; have hfz30_1 := blk_frozen BK385.out 1) | ((with_reducible refine gate_callee (f := 20) rfl ?_); refine goesL_ (some 96) rfl rfl Try.func20 (by kernel_rfl) rfl #[.slice A0 l0.length c0, .agg #[.int .i64 a1_0, .int .i64 a1_1], .int .i64 (wrap64 ((wrap64 (a2)) + 1))] rfl (by (try simp only [List.map_toArray, List.map_cons, List.map_nil]); first | done | rfl | (simp only [List.length_drop, List.length_take]; rfl)) ?_; (with_reducible refine (runout_Circular.calls kj8 _ _ l0 a1_0 a1_1 (wrap64 ((wrap64 (a2)) + 1)) t397 t398 t399 _ ?side1 ?side2 A26.out).mono ?_); (case side1 => repeat (first | exact (Kd.C_below HR0.out HB.out) | (with_reducible refine Kd.C_alloc ?_ _) | (with_reducible refine Kd.C_drewN ?_ _) | (with_reducible refine Kd.C_drew ?_))); (case side2 => exact HC0.out); rintro e w31 ⟨rfl, hb⟩; refine ⟨_, rfl, ?_⟩; have n0_ := Aside0.mk (blk_below (g := gb385) (o := .cells #[.int .i64 a1_0, .int .i64 a1_1] 25 (0, 0)) (by (with_reducible repeat (first | refine blk_drewN ?_ _ | refine blk_drew ?_ | refine blk_alloc ?_ _)); exact BK385.out) hb); have n1_ := Aside0.mk (below_step (by repeat (first | (with_reducible first | exact HB.out | apply below_alloc | apply pw_below_drewN | apply below_drew1 | refine below_set ?_ GE385.out) | exact HB.out)) hb); clear BK385; clear HB; have BK385 := n0_; have HB := n1_; clear n0_ n1_; (try clear hb); (try clear hb2); (try clear hk); (try clear hi)))
          (try simp only [Act.put, List.setIfInBounds_toArray, List.set_cons_zero, List.set_cons_succ])
          go_cut [117] (fun v117 wc => ∃ (kq : Nat) (x117_26 : Bool), v117 = .bool x117_26 ∧ Aside0 (metrolablaw38_RunoutBounds.j1 kq l0 t388 x117_26 a1_0 a1_1 = some r) ∧ Aside0 (kq ≤ kj8) ∧ Aside0 (wc.heap[gb385]? = some (.cells #[.int .i64 a1_0, .int .i64 a1_1] 25 (0, 0))) ∧ Aside0 (Below w.heap.size w wc))
          case first =>
            have H := HC27.out
            clear HC27
            by_cases c32 : (wrap64 (t396 + t399)) = 0
            · rw [if_pos c32] at H
              have c32b0 : ((wrap64 (t396 + t399)) == 0) = true := beq_iff_eq.mpr c32
              have c32b1 : ((wrap64 (t396 + t399)) != 0) = false := bne_eq_false_iff_eq.mpr c32
              clear c32
              (first | rw [c32b0] | (simp only [i64_w, i32_w]; rw [c32b0]) | skip)
              by_cases c33 : t390 = true
              · subst c33
                have H1 : (if t395 = true then (if t392 = true then (metrolablaw38_RunoutBounds.j1 kj8 l0 t388 (!t397) a1_0 a1_1) else (metrolablaw38_RunoutBounds.j1 kj8 l0 t388 false a1_0 a1_1)) else (metrolablaw38_RunoutBounds.j1 kj8 l0 t388 true a1_0 a1_1)) = some r := by rw [if_pos rfl] at H; exact H
                clear H
                have H := H1
                clear H1
                by_cases c34 : t395 = true
                · subst c34
                  have H1 : (if t392 = true then (metrolablaw38_RunoutBounds.j1 kj8 l0 t388 (!t397) a1_0 a1_1) else (metrolablaw38_RunoutBounds.j1 kj8 l0 t388 false a1_0 a1_1)) = some r := by rw [if_pos rfl] at H; exact H
                  clear H
                  have H := H1
                  clear H1
                  by_cases c35 : t392 = true
                  · subst c35
                    have H1 : (metrolablaw38_RunoutBounds.j1 kj8 l0 t388 (!t397) a1_0 a1_1) = some r := by rw [if_pos rfl] at H; exact H
                    clear H
                    have H := H1
                    clear H1
                    have H' := Aside0.mk H
                    clear H
                    go_wp2
                    go_meet
                    case rel => exact ⟨_, (!t397), (by first | rfl | (simp; done) | (simp [*]; done)), H', ⟨by have := HJ8.out; first | omega | exact Nat.le_refl _⟩, ⟨by (with_reducible repeat (first | refine blk_drewN ?_ _ | refine blk_drew ?_ | refine blk_alloc ?_ _)); exact BK385.out⟩, ⟨by repeat (first | (with_reducible first | exact HB.out | apply below_alloc | apply pw_below_drewN | apply below_drew1 | refine below_set ?_ GE385.out) | exact HB.out)⟩⟩
                  · replace c35 := Bool.eq_false_iff.mpr c35
                    subst c35
                    have H1 : (metrolablaw38_RunoutBounds.j1 kj8 l0 t388 false a1_0 a1_1) = some r := by rw [if_neg (show ¬ (false = true) by decide)] at H; exact H
                    clear H
                    have H := H1
                    clear H1
                    have H' := Aside0.mk H
                    clear H
                    go_wp2
                    go_meet
                    case rel => exact ⟨_, (false), (by first | rfl | (simp; done) | (simp [*]; done)), H', ⟨by have := HJ8.out; first | omega | exact Nat.le_refl _⟩, ⟨by (with_reducible repeat (first | refine blk_drewN ?_ _ | refine blk_drew ?_ | refine blk_alloc ?_ _)); exact BK385.out⟩, ⟨by repeat (first | (with_reducible first | exact HB.out | apply below_alloc | apply pw_below_drewN | apply below_drew1 | refine below_set ?_ GE385.out) | exact HB.out)⟩⟩
                · replace c34 := Bool.eq_false_iff.mpr c34
                  subst c34
                  have H1 : (metrolablaw38_RunoutBounds.j1 kj8 l0 t388 true a1_0 a1_1) = some r := by rw [if_neg (show ¬ (false = true) by decide)] at H; exact H
                  clear H
                  have H := H1
                  clear H1
                  have H' := Aside0.mk H
                  clear H
                  go_wp2
                  go_meet
                  case rel => exact ⟨_, (true), (by first | rfl | (simp; done) | (simp [*]; done)), H', ⟨by have := HJ8.out; first | omega | exact Nat.le_refl _⟩, ⟨by (with_reducible repeat (first | refine blk_drewN ?_ _ | refine blk_drew ?_ | refine blk_alloc ?_ _)); exact BK385.out⟩, ⟨by repeat (first | (with_reducible first | exact HB.out | apply below_alloc | apply pw_below_drewN | apply below_drew1 | refine below_set ?_ GE385.out) | exact HB.out)⟩⟩
              · replace c33 := Bool.eq_false_iff.mpr c33
                subst c33
                have H1 : (if t392 = true then (metrolablaw38_RunoutBounds.j1 kj8 l0 t388 (!t397) a1_0 a1_1) else (metrolablaw38_RunoutBounds.j1 kj8 l0 t388 false a1_0 a1_1)) = some r := by rw [if_neg (show ¬ (false = true) by decide)] at H; exact H
                clear H
                have H := H1
                clear H1
                by_cases c36 : t392 = true
                · subst c36
                  have H1 : (metrolablaw38_RunoutBounds.j1 kj8 l0 t388 (!t397) a1_0 a1_1) = some r := by rw [if_pos rfl] at H; exact H
                  clear H
                  have H := H1
                  clear H1
                  have H' := Aside0.mk H
                  clear H
                  go_wp2
                  go_meet
                  case rel => exact ⟨_, (!t397), (by first | rfl | (simp; done) | (simp [*]; done)), H', ⟨by have := HJ8.out; first | omega | exact Nat.le_refl _⟩, ⟨by (with_reducible repeat (first | refine blk_drewN ?_ _ | refine blk_drew ?_ | refine blk_alloc ?_ _)); exact BK385.out⟩, ⟨by repeat (first | (with_reducible first | exact HB.out | apply below_alloc | apply pw_below_drewN | apply below_drew1 | refine below_set ?_ GE385.out) | exact HB.out)⟩⟩
                · replace c36 := Bool.eq_false_iff.mpr c36
                  subst c36
                  have H1 : (metrolablaw38_RunoutBounds.j1 kj8 l0 t388 false a1_0 a1_1) = some r := by rw [if_neg (show ¬ (false = true) by decide)] at H; exact H
                  clear H
                  have H := H1
                  clear H1
                  have H' := Aside0.mk H
                  clear H
                  go_wp2
                  go_meet
                  case rel => exact ⟨_, (false), (by first | rfl | (simp; done) | (simp [*]; done)), H', ⟨by have := HJ8.out; first | omega | exact Nat.le_refl _⟩, ⟨by (with_reducible repeat (first | refine blk_drewN ?_ _ | refine blk_drew ?_ | refine blk_alloc ?_ _)); exact BK385.out⟩, ⟨by repeat (first | (with_reducible first | exact HB.out | apply below_alloc | apply pw_below_drewN | apply below_drew1 | refine below_set ?_ GE385.out) | exact HB.out)⟩⟩
            · rw [if_neg c32] at H
              have c32b0 : ((wrap64 (t396 + t399)) == 0) = false := beq_eq_false_iff_ne.mpr c32
              have c32b1 : ((wrap64 (t396 + t399)) != 0) = true := bne_iff_ne.mpr c32
              (first | rw [c32b0] | (simp only [i64_w, i32_w]; rw [c32b0]) | skip)
              have H' := Aside0.mk H
              clear H
              go_wp2
              go_meet
              case rel => exact ⟨_, (true), (by first | rfl | (simp; done) | (simp [*]; done)), H', ⟨by have := HJ8.out; first | omega | exact Nat.le_refl _⟩, ⟨by (with_reducible repeat (first | refine blk_drewN ?_ _ | refine blk_drew ?_ | refine blk_alloc ?_ _)); exact BK385.out⟩, ⟨by repeat (first | (with_reducible first | exact HB.out | apply below_alloc | apply pw_below_drewN | apply below_drew1 | refine below_set ?_ GE385.out) | exact HB.out)⟩⟩
          case rest =>
            clear HC27
            try clear c1
            try clear c2
            try clear p2
            try clear c3
            try clear c5
            try clear c6
            try clear p6
            try clear c19
            try clear c19b0
            try clear c19b1
            try clear c20
            try clear c20b0
            try clear c21
            try clear c21b0
            try clear c21b1
            try clear c21b2
            try clear c22
            try clear c23
            try clear c24
            try clear c26
            try clear c32
            try clear c32b0
            try clear c32b1
            try clear c33
            try clear c34
            try clear c35
            try clear c36
            try clear hcz11_0
            try clear hcz11_1
            try clear hcz13_0
            try clear hcz13_1
            try clear hcz15_0
            try clear hcz15_1
            try clear hcz17_0
            try clear hcz17_1
            try clear hcz28_0
            try clear hcz28_1
            try clear hcz30_0
            try clear hcz30_1
            try clear hfz11_0
            try clear hfz11_1
            try clear hfz13_0
            try clear hfz13_1
            try clear hfz15_0
            try clear hfz15_1
            try clear hfz17_0
            try clear hfz17_1
            try clear hfz28_0
            try clear hfz28_1
            try clear hfz30_0
            try clear hfz30_1
            try clear p2
            try clear p6
            obtain ⟨kq, x117_26, rfl, HA, HJ26, BK385, HB⟩ := hcut
            cases kq with
            | zero => exact absurd HA.out (by simp [metrolablaw38_RunoutBounds.j1])
            | succ kj26 =>
              have H := HA.out
              clear HA
              simp only [metrolablaw38_RunoutBounds.j1] at H
              by_cases c37 : x117_26 = true
              · subst c37
                have H1 : (some false) = some r := by rw [if_pos rfl] at H; exact H
                clear H
                have H := H1
                clear H1
                obtain rfl := Option.some.inj H
                go_wp2
                go_ret
                exact ⟨by first | rfl | (simp [errW_none, errW_some] <;> rfl) | (simp [*, errW_none, errW_some] <;> rfl), by repeat (first | (with_reducible first | exact HB.out | apply below_alloc | apply pw_below_drewN | apply below_drew1 | refine below_set ?_ GE385.out) | exact HB.out)⟩
              · replace c37 := Bool.eq_false_iff.mpr c37
                subst c37
                have H1 : (if t388 > 100000 then ((metrolablaw38_awake.f).bind fun t400 => (some t400)) else ((runout_Total.f kj26 l0 a1_0 a1_1 t388).bind fun bt401 => (if bt401.2 = 0 then (metrolablaw38_RunoutBounds.j2 kj26 l0 t388 (!bt401.1) a1_0 a1_1) else (metrolablaw38_RunoutBounds.j2 kj26 l0 t388 true a1_0 a1_1)))) = some r := by rw [if_neg (show ¬ (false = true) by decide)] at H; exact H
                clear H
                have H := H1
                clear H1
                by_cases c38 : t388 > 100000
                · rw [if_pos c38] at H
                  have c38b0 : decide (100000 < t388) = true := decide_eq_true c38
                  clear c38
                  replace H := Option.bind_eq_some_iff.mp H
                  obtain ⟨t400, A390, H⟩ := H
                  replace H : (some t400) = some r := H
                  have A39 := Aside0.mk A390
                  clear A390
                  obtain rfl := Option.some.inj H
                  go_wp2_with (first | ((with_reducible refine gate_callee (f := 13) rfl ?_); refine goesL_ (some 120) rfl rfl Try.func13 (by kernel_rfl) rfl #[] rfl (by (try simp only [List.map_toArray, List.map_cons, List.map_nil]); first | done | rfl | (simp only [List.length_drop, List.length_take]; rfl)) ?_; (with_reducible refine (metrolablaw38_awake.calls  t400 _ A39.out).mono ?_); rintro e w40 ⟨rfl, hb⟩; refine ⟨_, rfl, ?_⟩; have n0_ := Aside0.mk (blk_below (g := gb385) (o := .cells #[.int .i64 a1_0, .int .i64 a1_1] 25 (0, 0)) (by (with_reducible repeat (first | refine blk_drewN ?_ _ | refine blk_drew ?_ | refine blk_alloc ?_ _)); exact BK385.out) hb); have n1_ := Aside0.mk (below_step (by repeat (first | (with_reducible first | exact HB.out | apply below_alloc | apply pw_below_drewN | apply below_drew1 | refine below_set ?_ GE385.out) | exact HB.out)) hb); clear BK385; clear HB; have BK385 := n0_; have HB := n1_; clear n0_ n1_; (try clear hb); (try clear hb2); (try clear hk); (try clear hi)))
                  go_ret
                  exact ⟨by first | rfl | (simp [errW_none, errW_some] <;> rfl) | (simp [*, errW_none, errW_some] <;> rfl), by repeat (first | (with_reducible first | exact HB.out | apply below_alloc | apply pw_below_drewN | apply below_drew1 | refine below_set ?_ GE385.out) | exact HB.out)⟩
                · rw [if_neg c38] at H
                  have c38b0 : decide (100000 < t388) = false := decide_eq_false c38
                  clear c38
                  replace H := Option.bind_eq_some_iff.mp H
                  obtain ⟨⟨t401, t402⟩, A410, H⟩ := H
                  replace H : (if t402 = 0 then (metrolablaw38_RunoutBounds.j2 kj26 l0 t388 (!t401) a1_0 a1_1) else (metrolablaw38_RunoutBounds.j2 kj26 l0 t388 true a1_0 a1_1)) = some r := H
                  have A41 := Aside0.mk A410
                  clear A410
                  have HC42 := Aside0.mk H
                  clear H
                  have hcz43_0 : wc.cell? ⟨gb385, 0, none⟩ = some (.int .i64 a1_0) := (blk_cell BK385.out 0).trans rfl
                  have hcz43_1 : wc.cell? ⟨gb385, 1, none⟩ = some (.int .i64 a1_1) := (blk_cell BK385.out 1).trans rfl
                  have hfz43_0 := blk_frozen BK385.out 0
                  have hfz43_1 := blk_frozen BK385.out 1
                  go_upto_region 15 with (first | ((with_reducible refine gate_callee (f := 22) rfl ?_); refine goesL_ (some 125) rfl rfl Try.func22 (by kernel_rfl) rfl #[.slice A0 l0.length c0, .agg #[.int .i64 a1_0, .int .i64 a1_1], .int .i64 t388] rfl (by (try simp only [List.map_toArray, List.map_cons, List.map_nil]); first | done | rfl | (simp only [List.length_drop, List.length_take]; rfl)) ?_; (with_reducible refine (runout_Total.calls kj26 _ _ l0 a1_0 a1_1 t388 t401 t402 _ ?side1 ?side2 A41.out).mono ?_); (case side1 => repeat (first | exact (Kd.C_below HR0.out HB.out) | (with_reducible refine Kd.C_alloc ?_ _) | (with_reducible refine Kd.C_drewN ?_ _) | (with_reducible refine Kd.C_drew ?_))); (case side2 => exact HC0.out); rintro e w44 ⟨rfl, hb⟩; refine ⟨_, rfl, ?_⟩; have n0_ := Aside0.mk (blk_below (g := gb385) (o := .cells #[.int .i64 a1_0, .int .i64 a1_1] 25 (0, 0)) (by (with_reducible repeat (first | refine blk_drewN ?_ _ | refine blk_drew ?_ | refine blk_alloc ?_ _)); exact BK385.out) hb); have n1_ := Aside0.mk (below_step (by repeat (first | (with_reducible first | exact HB.out | apply below_alloc | apply pw_below_drewN | apply below_drew1 | refine below_set ?_ GE385.out) | exact HB.out)) hb); clear BK385; clear HB; have BK385 := n0_; have HB := n1_; clear n0_ n1_; (try clear hb); (try clear hb2); (try clear hk); (try clear hi)))
                  (try simp only [Act.put, List.setIfInBounds_toArray, List.set_cons_zero, List.set_cons_succ])
                  go_cut [133] (fun v133 wc => ∃ (kq : Nat) (x133_41 : Bool), v133 = .bool x133_41 ∧ Aside0 (metrolablaw38_RunoutBounds.j2 kq l0 t388 x133_41 a1_0 a1_1 = some r) ∧ Aside0 (kq ≤ kj26) ∧ Aside0 (wc.heap[gb385]? = some (.cells #[.int .i64 a1_0, .int .i64 a1_1] 25 (0, 0))) ∧ Aside0 (Below w.heap.size w wc))
                  case first =>
                    have H := HC42.out
                    clear HC42
                    by_cases c45 : t402 = 0
                    · rw [if_pos c45] at H
                      have c45b0 : (t402 == 0) = true := beq_iff_eq.mpr c45
                      have c45b1 : (t402 != 0) = false := bne_eq_false_iff_eq.mpr c45
                      clear c45
                      (first | rw [c45b0] | (simp only [i64_w, i32_w]; rw [c45b0]) | skip)
                      have H' := Aside0.mk H
                      clear H
                      go_wp2
                      go_meet
                      case rel => exact ⟨_, (!t401), (by first | rfl | (simp; done) | (simp [*]; done)), H', ⟨by have := HJ8.out; have := HJ26.out; first | omega | exact Nat.le_refl _⟩, ⟨by (with_reducible repeat (first | refine blk_drewN ?_ _ | refine blk_drew ?_ | refine blk_alloc ?_ _)); exact BK385.out⟩, ⟨by repeat (first | (with_reducible first | exact HB.out | apply below_alloc | apply pw_below_drewN | apply below_drew1 | refine below_set ?_ GE385.out) | exact HB.out)⟩⟩
                    · rw [if_neg c45] at H
                      have c45b0 : (t402 == 0) = false := beq_eq_false_iff_ne.mpr c45
                      have c45b1 : (t402 != 0) = true := bne_iff_ne.mpr c45
                      (first | rw [c45b0] | (simp only [i64_w, i32_w]; rw [c45b0]) | skip)
                      have H' := Aside0.mk H
                      clear H
                      go_wp2
                      go_meet
                      case rel => exact ⟨_, (true), (by first | rfl | (simp; done) | (simp [*]; done)), H', ⟨by have := HJ8.out; have := HJ26.out; first | omega | exact Nat.le_refl _⟩, ⟨by (with_reducible repeat (first | refine blk_drewN ?_ _ | refine blk_drew ?_ | refine blk_alloc ?_ _)); exact BK385.out⟩, ⟨by repeat (first | (with_reducible first | exact HB.out | apply below_alloc | apply pw_below_drewN | apply below_drew1 | refine below_set ?_ GE385.out) | exact HB.out)⟩⟩
                  case rest =>
                    clear HC42
                    try clear c1
                    try clear c2
                    try clear p2
                    try clear c3
                    try clear c4
                    try clear c5
                    try clear c6
                    try clear p6
                    try clear c13
                    try clear c19
                    try clear c19b0
                    try clear c19b1
                    try clear c20
                    try clear c20b0
                    try clear c21
                    try clear c21b0
                    try clear c21b1
                    try clear c21b2
                    try clear c22
                    try clear c23
                    try clear c24
                    try clear c26
                    try clear c32
                    try clear c32b0
                    try clear c32b1
                    try clear c33
                    try clear c34
                    try clear c35
                    try clear c36
                    try clear c37
                    try clear c38
                    try clear c38b0
                    try clear c45
                    try clear c45b0
                    try clear c45b1
                    try clear hcz11_0
                    try clear hcz11_1
                    try clear hcz13_0
                    try clear hcz13_1
                    try clear hcz15_0
                    try clear hcz15_1
                    try clear hcz17_0
                    try clear hcz17_1
                    try clear hcz28_0
                    try clear hcz28_1
                    try clear hcz30_0
                    try clear hcz30_1
                    try clear hcz43_0
                    try clear hcz43_1
                    try clear hfz11_0
                    try clear hfz11_1
                    try clear hfz13_0
                    try clear hfz13_1
                    try clear hfz15_0
                    try clear hfz15_1
                    try clear hfz17_0
                    try clear hfz17_1
                    try clear hfz28_0
                    try clear hfz28_1
                    try clear hfz30_0
                    try clear hfz30_1
                    try clear hfz43_0
                    try clear hfz43_1
                    try clear p2
                    try clear p6
                    obtain ⟨kq, x133_41, rfl, HA, HJ41, BK385, HB⟩ := hcut
                    cases kq with
                    | zero => exact absurd HA.out (by simp [metrolablaw38_RunoutBounds.j2])
                    | succ kj41 =>
                      have H := HA.out
                      clear HA
                      simp only [metrolablaw38_RunoutBounds.j2] at H
                      by_cases c46 : x133_41 = true
                      · subst c46
                        have H1 : (some false) = some r := by rw [if_pos rfl] at H; exact H
                        clear H
                        have H := H1
                        clear H1
                        obtain rfl := Option.some.inj H
                        go_wp2
                        go_ret
                        exact ⟨by first | rfl | (simp [errW_none, errW_some] <;> rfl) | (simp [*, errW_none, errW_some] <;> rfl), by repeat (first | (with_reducible first | exact HB.out | apply below_alloc | apply pw_below_drewN | apply below_drew1 | refine below_set ?_ GE385.out) | exact HB.out)⟩
                      · replace c46 := Bool.eq_false_iff.mpr c46
                        subst c46
                        have H1 : (if t388 > 0 then ((runout_Total.f kj41 l0 a1_0 a1_1 (wrap64 (t388 - 1))).bind fun bt403 => (if bt403.2 = 0 then (if bt403.1 = true then (some false) else ((metrolablaw38_awake.f).bind fun t405 => (some t405))) else (some false))) else ((metrolablaw38_awake.f).bind fun t406 => (some t406))) = some r := by rw [if_neg (show ¬ (false = true) by decide)] at H; exact H
                        clear H
                        have H := H1
                        clear H1
                        by_cases c47 : t388 > 0
                        · rw [if_pos c47] at H
                          have c47b0 : decide (0 < t388) = true := decide_eq_true c47
                          clear c47
                          replace H := Option.bind_eq_some_iff.mp H
                          obtain ⟨⟨t403, t404⟩, A480, H⟩ := H
                          replace H : (if t404 = 0 then (if t403 = true then (some false) else ((metrolablaw38_awake.f).bind fun t405 => (some t405))) else (some false)) = some r := H
                          have A48 := Aside0.mk A480
                          clear A480
                          by_cases c49 : t404 = 0
                          · rw [if_pos c49] at H
                            have c49b0 : (t404 == 0) = true := beq_iff_eq.mpr c49
                            have c49b1 : (t404 != 0) = false := bne_eq_false_iff_eq.mpr c49
                            clear c49
                            by_cases c50 : t403 = true
                            · subst c50
                              have H1 : (some false) = some r := by rw [if_pos rfl] at H; exact H
                              clear H
                              have H := H1
                              clear H1
                              obtain rfl := Option.some.inj H
                              have hcz51_0 : wc.cell? ⟨gb385, 0, none⟩ = some (.int .i64 a1_0) := (blk_cell BK385.out 0).trans rfl
                              have hcz51_1 : wc.cell? ⟨gb385, 1, none⟩ = some (.int .i64 a1_1) := (blk_cell BK385.out 1).trans rfl
                              have hfz51_0 := blk_frozen BK385.out 0
                              have hfz51_1 := blk_frozen BK385.out 1
                              go_wp2_with (first | ((with_reducible refine gate_callee (f := 22) rfl ?_); refine goesL_ (some 141) rfl rfl Try.func22 (by kernel_rfl) rfl #[.slice A0 l0.length c0, .agg #[.int .i64 a1_0, .int .i64 a1_1], .int .i64 (wrap64 (t388 - 1))] rfl (by (try simp only [List.map_toArray, List.map_cons, List.map_nil]); first | done | rfl | (simp only [List.length_drop, List.length_take]; rfl)) ?_; (with_reducible refine (runout_Total.calls kj41 _ _ l0 a1_0 a1_1 (wrap64 (t388 - 1)) true t404 _ ?side1 ?side2 A48.out).mono ?_); (case side1 => repeat (first | exact (Kd.C_below HR0.out HB.out) | (with_reducible refine Kd.C_alloc ?_ _) | (with_reducible refine Kd.C_drewN ?_ _) | (with_reducible refine Kd.C_drew ?_))); (case side2 => exact HC0.out); rintro e w52 ⟨rfl, hb⟩; refine ⟨_, rfl, ?_⟩; have n0_ := Aside0.mk (blk_below (g := gb385) (o := .cells #[.int .i64 a1_0, .int .i64 a1_1] 25 (0, 0)) (by (with_reducible repeat (first | refine blk_drewN ?_ _ | refine blk_drew ?_ | refine blk_alloc ?_ _)); exact BK385.out) hb); have n1_ := Aside0.mk (below_step (by repeat (first | (with_reducible first | exact HB.out | apply below_alloc | apply pw_below_drewN | apply below_drew1 | refine below_set ?_ GE385.out) | exact HB.out)) hb); clear BK385; clear HB; have BK385 := n0_; have HB := n1_; clear n0_ n1_; (try clear hb); (try clear hb2); (try clear hk); (try clear hi)))
                              go_ret
                              exact ⟨by first | rfl | (simp [errW_none, errW_some] <;> rfl) | (simp [*, errW_none, errW_some] <;> rfl), by repeat (first | (with_reducible first | exact HB.out | apply below_alloc | apply pw_below_drewN | apply below_drew1 | refine below_set ?_ GE385.out) | exact HB.out)⟩
                            · replace c50 := Bool.eq_false_iff.mpr c50
                              subst c50
                              have H1 : ((metrolablaw38_awake.f).bind fun t405 => (some t405)) = some r := by rw [if_neg (show ¬ (false = true) by decide)] at H; exact H
                              clear H
                              have H := H1
                              clear H1
                              replace H := Option.bind_eq_some_iff.mp H
                              obtain ⟨t405, A530, H⟩ := H
                              replace H : (some t405) = some r := H
                              have A53 := Aside0.mk A530
                              clear A530
                              obtain rfl := Option.some.inj H
                              have hcz54_0 : wc.cell? ⟨gb385, 0, none⟩ = some (.int .i64 a1_0) := (blk_cell BK385.out 0).trans rfl
                              have hcz54_1 : wc.cell? ⟨gb385, 1, none⟩ = some (.int .i64 a1_1) := (blk_cell BK385.out 1).trans rfl
                              have hfz54_0 := blk_frozen BK385.out 0
                              have hfz54_1 := blk_frozen BK385.out 1
                              go_wp2_with (first | ((with_reducible refine gate_callee (f := 22) rfl ?_); refine goesL_ (some 141) rfl rfl Try.func22 (by kernel_rfl) rfl #[.slice A0 l0.length c0, .agg #[.int .i64 a1_0, .int .i64 a1_1], .int .i64 (wrap64 (t388 - 1))] rfl (by (try simp only [List.map_toArray, List.map_cons, List.map_nil]); first | done | rfl | (simp only [List.length_drop, List.length_take]; rfl)) ?_; (with_reducible refine (runout_Total.calls kj41 _ _ l0 a1_0 a1_1 (wrap64 (t388 - 1)) false t404 _ ?side1 ?side2 A48.out).mono ?_); (case side1 => repeat (first | exact (Kd.C_below HR0.out HB.out) | (with_reducible refine Kd.C_alloc ?_ _) | (with_reducible refine Kd.C_drewN ?_ _) | (with_reducible refine Kd.C_drew ?_))); (case side2 => exact HC0.out); rintro e w55 ⟨rfl, hb⟩; refine ⟨_, rfl, ?_⟩; have n0_ := Aside0.mk (blk_below (g := gb385) (o := .cells #[.int .i64 a1_0, .int .i64 a1_1] 25 (0, 0)) (by (with_reducible repeat (first | refine blk_drewN ?_ _ | refine blk_drew ?_ | refine blk_alloc ?_ _)); exact BK385.out) hb); have n1_ := Aside0.mk (below_step (by repeat (first | (with_reducible first | exact HB.out | apply below_alloc | apply pw_below_drewN | apply below_drew1 | refine below_set ?_ GE385.out) | exact HB.out)) hb); clear BK385; clear HB; have BK385 := n0_; have HB := n1_; clear n0_ n1_; (try clear hb); (try clear hb2); (try clear hk); (try clear hi)) | (go_at_call 13; (with_reducible refine (metrolablaw38_awake.calls  t405 _ A53.out).mono ?_); rintro e w56 ⟨rfl, hb⟩; have n0_ := Aside0.mk (blk_below (g := gb385) (o := .cells #[.int .i64 a1_0, .int .i64 a1_1] 25 (0, 0)) (by (with_reducible repeat (first | refine blk_drewN ?_ _ | refine blk_drew ?_ | refine blk_alloc ?_ _)); exact BK385.out) hb); have n1_ := Aside0.mk (below_step (by repeat (first | (with_reducible first | exact HB.out | apply below_alloc | apply pw_below_drewN | apply below_drew1 | refine below_set ?_ GE385.out) | exact HB.out)) hb); clear BK385; clear HB; have BK385 := n0_; have HB := n1_; clear n0_ n1_; (try clear hb); (try clear hb2); (try clear hk); (try clear hi)))
                              go_ret
                              exact ⟨by first | rfl | (simp [errW_none, errW_some] <;> rfl) | (simp [*, errW_none, errW_some] <;> rfl), by repeat (first | (with_reducible first | exact HB.out | apply below_alloc | apply pw_below_drewN | apply below_drew1 | refine below_set ?_ GE385.out) | exact HB.out)⟩
                          · rw [if_neg c49] at H
                            have c49b0 : (t404 == 0) = false := beq_eq_false_iff_ne.mpr c49
                            have c49b1 : (t404 != 0) = true := bne_iff_ne.mpr c49
                            obtain rfl := Option.some.inj H
                            have hcz57_0 : wc.cell? ⟨gb385, 0, none⟩ = some (.int .i64 a1_0) := (blk_cell BK385.out 0).trans rfl
                            have hcz57_1 : wc.cell? ⟨gb385, 1, none⟩ = some (.int .i64 a1_1) := (blk_cell BK385.out 1).trans rfl
                            have hfz57_0 := blk_frozen BK385.out 0
                            have hfz57_1 := blk_frozen BK385.out 1
                            go_wp2_with (first | ((with_reducible refine gate_callee (f := 22) rfl ?_); refine goesL_ (some 141) rfl rfl Try.func22 (by kernel_rfl) rfl #[.slice A0 l0.length c0, .agg #[.int .i64 a1_0, .int .i64 a1_1], .int .i64 (wrap64 (t388 - 1))] rfl (by (try simp only [List.map_toArray, List.map_cons, List.map_nil]); first | done | rfl | (simp only [List.length_drop, List.length_take]; rfl)) ?_; (with_reducible refine (runout_Total.calls kj41 _ _ l0 a1_0 a1_1 (wrap64 (t388 - 1)) t403 t404 _ ?side1 ?side2 A48.out).mono ?_); (case side1 => repeat (first | exact (Kd.C_below HR0.out HB.out) | (with_reducible refine Kd.C_alloc ?_ _) | (with_reducible refine Kd.C_drewN ?_ _) | (with_reducible refine Kd.C_drew ?_))); (case side2 => exact HC0.out); rintro e w58 ⟨rfl, hb⟩; refine ⟨_, rfl, ?_⟩; have n0_ := Aside0.mk (blk_below (g := gb385) (o := .cells #[.int .i64 a1_0, .int .i64 a1_1] 25 (0, 0)) (by (with_reducible repeat (first | refine blk_drewN ?_ _ | refine blk_drew ?_ | refine blk_alloc ?_ _)); exact BK385.out) hb); have n1_ := Aside0.mk (below_step (by repeat (first | (with_reducible first | exact HB.out | apply below_alloc | apply pw_below_drewN | apply below_drew1 | refine below_set ?_ GE385.out) | exact HB.out)) hb); clear BK385; clear HB; have BK385 := n0_; have HB := n1_; clear n0_ n1_; (try clear hb); (try clear hb2); (try clear hk); (try clear hi)))
                            go_ret
                            exact ⟨by first | rfl | (simp [errW_none, errW_some] <;> rfl) | (simp [*, errW_none, errW_some] <;> rfl), by repeat (first | (with_reducible first | exact HB.out | apply below_alloc | apply pw_below_drewN | apply below_drew1 | refine below_set ?_ GE385.out) | exact HB.out)⟩
                        · rw [if_neg c47] at H
                          have c47b0 : decide (0 < t388) = false := decide_eq_false c47
                          clear c47
                          replace H := Option.bind_eq_some_iff.mp H
                          obtain ⟨t406, A590, H⟩ := H
                          replace H : (some t406) = some r := H
                          have A59 := Aside0.mk A590
                          clear A590
                          obtain rfl := Option.some.inj H
                          go_wp2_with (first | ((with_reducible refine gate_callee (f := 13) rfl ?_); refine goesL_ (some 153) rfl rfl Try.func13 (by kernel_rfl) rfl #[] rfl (by (try simp only [List.map_toArray, List.map_cons, List.map_nil]); first | done | rfl | (simp only [List.length_drop, List.length_take]; rfl)) ?_; (with_reducible refine (metrolablaw38_awake.calls  t406 _ A59.out).mono ?_); rintro e w60 ⟨rfl, hb⟩; refine ⟨_, rfl, ?_⟩; have n0_ := Aside0.mk (blk_below (g := gb385) (o := .cells #[.int .i64 a1_0, .int .i64 a1_1] 25 (0, 0)) (by (with_reducible repeat (first | refine blk_drewN ?_ _ | refine blk_drew ?_ | refine blk_alloc ?_ _)); exact BK385.out) hb); have n1_ := Aside0.mk (below_step (by repeat (first | (with_reducible first | exact HB.out | apply below_alloc | apply pw_below_drewN | apply below_drew1 | refine below_set ?_ GE385.out) | exact HB.out)) hb); clear BK385; clear HB; have BK385 := n0_; have HB := n1_; clear n0_ n1_; (try clear hb); (try clear hb2); (try clear hk); (try clear hi)))
                          go_ret
                          exact ⟨by first | rfl | (simp [errW_none, errW_some] <;> rfl) | (simp [*, errW_none, errW_some] <;> rfl), by repeat (first | (with_reducible first | exact HB.out | apply below_alloc | apply pw_below_drewN | apply below_drew1 | refine below_set ?_ GE385.out) | exact HB.out)⟩
  · replace c5 := Bool.eq_false_iff.mpr c5
    subst c5
    have H1 : ((metrolablaw38_awake.f).bind fun t387 => (some t387)) = some r := by rw [if_neg (show ¬ (false = true) by decide)] at H; exact H
    clear H
    have H := H1
    clear H1
    replace H := Option.bind_eq_some_iff.mp H
    obtain ⟨t387, A610, H⟩ := H
    replace H : (some t387) = some r := H
    have A61 := Aside0.mk A610
    clear A610
    obtain rfl := Option.some.inj H
    go_enter Try.func6, Try.ntmps6
    go_wp2_with (first | ((with_reducible refine gate_dst (N := 4) rfl ?_); (try (refine gate_guard (by rfl) ?_; dsimp only)); refine box_event ?hg (N := 4) ?hd (cs := #[.int .i64 a1_0, .int .i64 a1_1]) (t := 25) ?hr ?_; (case hd => rfl); (case hg => rfl); (case hr => first | (go_simp; done) | (go_simp; rfl)); intro gb385 hg w62 hbox hb; have n0_ := Aside0.mk (below_step (by repeat (first | (with_reducible first | exact HB.out | apply below_alloc | apply pw_below_drewN | apply below_drew1) | exact HB.out)) hb); have n1_ := Aside0.mk (hbox); have n2_ := Aside0.mk ((by rw [hg]; exact (below_size (by repeat (first | (with_reducible first | exact HB.out | apply below_alloc | apply pw_below_drewN | apply below_drew1) | exact HB.out))) : w.heap.size ≤ gb385)); have n3_ := Aside0.mk ((by rw [hg]; exact (below_size (by repeat (first | (with_reducible first | exact HB.out | apply below_alloc | apply pw_below_drewN | apply below_drew1) | exact HB.out))) : w.heap.size ≤ gb385)); clear HB; have HB := n0_; have BK385 := n1_; have GW385 := n2_; have GE385 := n3_; clear n0_ n1_ n2_ n3_; clear hb hbox hg; have hcz63_0 : w62.cell? ⟨gb385, 0, none⟩ = some (.int .i64 a1_0) := (blk_cell BK385.out 0).trans rfl; have hcz63_1 : w62.cell? ⟨gb385, 1, none⟩ = some (.int .i64 a1_1) := (blk_cell BK385.out 1).trans rfl; have hfz63_0 := blk_frozen BK385.out 0; have hfz63_1 := blk_frozen BK385.out 1) | ((with_reducible refine gate_callee (f := 26) rfl ?_); refine goesL_ (some 22) rfl rfl Try.func26 (by kernel_rfl) rfl #[.slice A0 l0.length c0, .agg #[.int .i64 a1_0, .int .i64 a1_1]] rfl (by (try simp only [List.map_toArray, List.map_cons, List.map_nil]); first | done | rfl | (simp only [List.length_drop, List.length_take]; rfl)) ?_; (with_reducible refine (metrolablaw38_right.calls k _ _ l0 a1_0 a1_1 false _ ?side1 ?side2 A4.out).mono ?_); (case side1 => repeat (first | exact (Kd.C_below HR0.out HB.out) | (with_reducible refine Kd.C_alloc ?_ _) | (with_reducible refine Kd.C_drewN ?_ _) | (with_reducible refine Kd.C_drew ?_))); (case side2 => exact HC0.out); rintro e w64 ⟨rfl, hb⟩; refine ⟨_, rfl, ?_⟩; have n0_ := Aside0.mk (blk_below (g := gb385) (o := .cells #[.int .i64 a1_0, .int .i64 a1_1] 25 (0, 0)) (by (with_reducible repeat (first | refine blk_drewN ?_ _ | refine blk_drew ?_ | refine blk_alloc ?_ _)); exact BK385.out) hb); have n1_ := Aside0.mk (below_step (by repeat (first | (with_reducible first | exact HB.out | apply below_alloc | apply pw_below_drewN | apply below_drew1 | refine below_set ?_ GE385.out) | exact HB.out)) hb); clear BK385; clear HB; have BK385 := n0_; have HB := n1_; clear n0_ n1_; (try clear hb); (try clear hb2); (try clear hk); (try clear hi)) | ((with_reducible refine gate_callee (f := 13) rfl ?_); refine goesL_ (some 24) rfl rfl Try.func13 (by kernel_rfl) rfl #[] rfl (by (try simp only [List.map_toArray, List.map_cons, List.map_nil]); first | done | rfl | (simp only [List.length_drop, List.length_take]; rfl)) ?_; (with_reducible refine (metrolablaw38_awake.calls  t387 _ A61.out).mono ?_); rintro e w65 ⟨rfl, hb⟩; refine ⟨_, rfl, ?_⟩; have n0_ := Aside0.mk (blk_below (g := gb385) (o := .cells #[.int .i64 a1_0, .int .i64 a1_1] 25 (0, 0)) (by (with_reducible repeat (first | refine blk_drewN ?_ _ | refine blk_drew ?_ | refine blk_alloc ?_ _)); exact BK385.out) hb); have n1_ := Aside0.mk (below_step (by repeat (first | (with_reducible first | exact HB.out | apply below_alloc | apply pw_below_drewN | apply below_drew1 | refine below_set ?_ GE385.out) | exact HB.out)) hb); clear BK385; clear HB; have BK385 := n0_; have HB := n1_; clear n0_ n1_; (try clear hb); (try clear hb2); (try clear hk); (try clear hi)))
    go_ret
    exact ⟨by first | rfl | (simp [errW_none, errW_some] <;> rfl) | (simp [*, errW_none, errW_some] <;> rfl), by repeat (first | (with_reducible first | exact HB.out | apply below_alloc | apply pw_below_drewN | apply below_drew1 | refine below_set ?_ GE385.out) | exact HB.out)⟩

end Go.Proofs.Ytkpojbglckmddaa.X

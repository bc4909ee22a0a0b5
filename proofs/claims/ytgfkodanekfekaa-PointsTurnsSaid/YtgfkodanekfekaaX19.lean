-- Made by wip/xprint.py for this claim: the kit's printer over the translation, with hand-proved functions in their places. Lean checks it.
import Derived.Test.YtgfkodanekfekaaX0
import Derived.Test.YtgfkodanekfekaaX4
import Derived.Test.YtgfkodanekfekaaX5
import Derived.Test.YtgfkodanekfekaaX8
import Derived.Test.YtgfkodanekfekaaX9
import Derived.Test.YtgfkodanekfekaaX18
namespace Go.Proofs.Ytgfkodanekfekaa.X
open Go.RowKit Go.Proofs.YtgfkodanekfekaaW.PrintWords Go.Proofs.YtgfkodanekfekaaW.PrintLast Go.Proofs.YtgfkodanekfekaaW.PrintMore
attribute [local go_sem] max2_int min2_int max_two min_two max_three min_three max_four min_four   -- for this text's walks alone
set_option linter.unusedVariables false
set_option linter.unusedSimpArgs false

/-! ### metrolablaw31_PointsTurns: function 4 -/
def metrolablaw31_PointsTurns.j0 : Nat → List (S30) → Int → Bool → Option (Bool)
  | 0, _, _, _ => none
  | k + 1, x0, x1, x66 => if x66 = true then (some false) else ((points_Flatten.f x0 x1).bind fun bt261 => ((metrolabref31_Flatten.f k x0 x1).bind fun bt265 => ((api_Point_24.f k bt261.1 bt265.1).bind fun t269 => (if t269 = true then (if bt261.2 = bt265.2 then ((metrolablaw31_awake.f k).bind fun t270 => (some t270)) else (some false)) else (some false)))))
def metrolablaw31_PointsTurns.f (k : Nat) (l0 : List (S30)) (a1 : Int) (a2 : Int) : Option (Bool) := (metrolabref31_Few.f l0).bind fun t241 => (if t241 = true then ((points_Turn.f l0 a1 a2).bind fun bt243 => ((metrolabref31_Turn.f k l0 a1 a2).bind fun bt247 => ((points_Mirror.f l0 a1).bind fun bt251 => ((metrolabref31_Mirror.f k l0 a1).bind fun bt255 => ((api_Spot_21.f k bt243.1 bt247.1).bind fun t259 => (if t259 = true then (if bt243.2 = bt247.2 then ((api_Spot_21.f k bt251.1 bt255.1).bind fun t260 => (if t260 = true then (metrolablaw31_PointsTurns.j0 k l0 a1 (bt251.2 != bt255.2)) else (metrolablaw31_PointsTurns.j0 k l0 a1 true))) else (metrolablaw31_PointsTurns.j0 k l0 a1 true)) else (metrolablaw31_PointsTurns.j0 k l0 a1 true))))))) else ((metrolablaw31_awake.f k).bind fun t242 => (some t242)))
theorem metrolablaw31_PointsTurns.mono_l : ∀ k, (∀ y0 y1 y2, LeO (metrolablaw31_PointsTurns.j0 k y0 y1 y2) (metrolablaw31_PointsTurns.j0 (k + 1) y0 y1 y2))
  | 0 => fun _ _ _ r h => by simp [metrolablaw31_PointsTurns.j0] at h
  | k + 1 => by
    have ih0 := metrolablaw31_PointsTurns.mono_l k
    · intro y0 y1 y2
      unfold metrolablaw31_PointsTurns.j0
      repeat' first
      | (with_reducible exact ih0 _ _ _)
      | (with_reducible exact api_Point_24.mono _ _ _)
      | (with_reducible exact api_Spot_21.mono _ _ _)
      | (with_reducible exact metrolablaw31_awake.mono _)
      | (with_reducible exact metrolabref31_Flatten.mono _ _ _)
      | (with_reducible exact metrolabref31_Mirror.mono _ _ _)
      | (with_reducible exact metrolabref31_Turn.mono _ _ _ _)
      | (with_reducible exact LeO.refl _)
      | (with_reducible exact LeO.none _)
      | (with_reducible refine LeO.ite ?_ ?_)
      | (with_reducible refine LeO.bind ?_ (fun _ => ?_))
      | exact ih0 _ _ _
      | exact api_Point_24.mono _ _ _
      | exact api_Spot_21.mono _ _ _
      | exact metrolablaw31_awake.mono _
      | exact metrolabref31_Flatten.mono _ _ _
      | exact metrolabref31_Mirror.mono _ _ _
      | exact metrolabref31_Turn.mono _ _ _ _
      | exact LeO.none _
      | refine LeO.ite ?_ ?_
      | refine LeO.bind ?_ (fun _ => ?_)
theorem metrolablaw31_PointsTurns.mono : ∀ a0 a1 a2 k, LeO (metrolablaw31_PointsTurns.f k a0 a1 a2) (metrolablaw31_PointsTurns.f (k + 1) a0 a1 a2) := by
  intro a0 a1 a2 k
  have ih0 := metrolablaw31_PointsTurns.mono_l k
  unfold metrolablaw31_PointsTurns.f
  repeat' first
      | (with_reducible exact ih0 _ _ _)
      | (with_reducible exact api_Point_24.mono _ _ _)
      | (with_reducible exact api_Spot_21.mono _ _ _)
      | (with_reducible exact metrolablaw31_awake.mono _)
      | (with_reducible exact metrolabref31_Flatten.mono _ _ _)
      | (with_reducible exact metrolabref31_Mirror.mono _ _ _)
      | (with_reducible exact metrolabref31_Turn.mono _ _ _ _)
      | (with_reducible exact LeO.refl _)
      | (with_reducible exact LeO.none _)
      | (with_reducible refine LeO.ite ?_ ?_)
      | (with_reducible refine LeO.bind ?_ (fun _ => ?_))
      | exact ih0 _ _ _
      | exact api_Point_24.mono _ _ _
      | exact api_Spot_21.mono _ _ _
      | exact metrolablaw31_awake.mono _
      | exact metrolabref31_Flatten.mono _ _ _
      | exact metrolabref31_Mirror.mono _ _ _
      | exact metrolabref31_Turn.mono _ _ _ _
      | exact LeO.none _
      | refine LeO.ite ?_ ?_
      | refine LeO.bind ?_ (fun _ => ?_)
set_option maxHeartbeats 8000000 in
set_option maxRecDepth 100000 in
theorem metrolablaw31_PointsTurns.calls (k : Nat) (A0 : Option Addr) (c0 : Nat) (l0 : List (S30)) (a1 : Int) (a2 : Int) (r : Bool) (w : World) (hr0 : Kd.C k30 w A0 l0.length l0) (hc0 : l0.length ≤ c0) (h : metrolablaw31_PointsTurns.f k l0 a1 a2 = some r) :
    Calls Try.prog 4 #[.slice A0 l0.length c0, .int .i64 a1, .int .i64 a2] w fun e w' => e = .returned (.bool r) ∧ Below w.heap.size w w' := by
  have HR0 := Aside0.mk hr0
  have HC0 := Aside0.mk hc0
  clear hr0 hc0
  have HB := Aside0.mk (Below.refl w.heap.size w)
  have H : ((metrolabref31_Few.f l0).bind fun t241 => (if t241 = true then ((points_Turn.f l0 a1 a2).bind fun bt243 => ((metrolabref31_Turn.f k l0 a1 a2).bind fun bt247 => ((points_Mirror.f l0 a1).bind fun bt251 => ((metrolabref31_Mirror.f k l0 a1).bind fun bt255 => ((api_Spot_21.f k bt243.1 bt247.1).bind fun t259 => (if t259 = true then (if bt243.2 = bt247.2 then ((api_Spot_21.f k bt251.1 bt255.1).bind fun t260 => (if t260 = true then (metrolablaw31_PointsTurns.j0 k l0 a1 (bt251.2 != bt255.2)) else (metrolablaw31_PointsTurns.j0 k l0 a1 true))) else (metrolablaw31_PointsTurns.j0 k l0 a1 true)) else (metrolablaw31_PointsTurns.j0 k l0 a1 true))))))) else ((metrolablaw31_awake.f k).bind fun t242 => (some t242)))) = some r := h
  clear h
  replace H := Option.bind_eq_some_iff.mp H
  obtain ⟨t241, A40, H⟩ := H
  replace H : (if t241 = true then ((points_Turn.f l0 a1 a2).bind fun bt243 => ((metrolabref31_Turn.f k l0 a1 a2).bind fun bt247 => ((points_Mirror.f l0 a1).bind fun bt251 => ((metrolabref31_Mirror.f k l0 a1).bind fun bt255 => ((api_Spot_21.f k bt243.1 bt247.1).bind fun t259 => (if t259 = true then (if bt243.2 = bt247.2 then ((api_Spot_21.f k bt251.1 bt255.1).bind fun t260 => (if t260 = true then (metrolablaw31_PointsTurns.j0 k l0 a1 (bt251.2 != bt255.2)) else (metrolablaw31_PointsTurns.j0 k l0 a1 true))) else (metrolablaw31_PointsTurns.j0 k l0 a1 true)) else (metrolablaw31_PointsTurns.j0 k l0 a1 true))))))) else ((metrolablaw31_awake.f k).bind fun t242 => (some t242))) = some r := H
  have A4 := Aside0.mk A40
  clear A40
  by_cases c5 : t241 = true
  · subst c5
    have H1 : ((points_Turn.f l0 a1 a2).bind fun bt243 => ((metrolabref31_Turn.f k l0 a1 a2).bind fun bt247 => ((points_Mirror.f l0 a1).bind fun bt251 => ((metrolabref31_Mirror.f k l0 a1).bind fun bt255 => ((api_Spot_21.f k bt243.1 bt247.1).bind fun t259 => (if t259 = true then (if bt243.2 = bt247.2 then ((api_Spot_21.f k bt251.1 bt255.1).bind fun t260 => (if t260 = true then (metrolablaw31_PointsTurns.j0 k l0 a1 (bt251.2 != bt255.2)) else (metrolablaw31_PointsTurns.j0 k l0 a1 true))) else (metrolablaw31_PointsTurns.j0 k l0 a1 true)) else (metrolablaw31_PointsTurns.j0 k l0 a1 true))))))) = some r := by rw [if_pos rfl] at H; exact H
    clear H
    have H := H1
    clear H1
    replace H := Option.bind_eq_some_iff.mp H
    obtain ⟨⟨t243, t244⟩, A60, H⟩ := H
    replace H : ((metrolabref31_Turn.f k l0 a1 a2).bind fun bt247 => ((points_Mirror.f l0 a1).bind fun bt251 => ((metrolabref31_Mirror.f k l0 a1).bind fun bt255 => ((api_Spot_21.f k t243 bt247.1).bind fun t259 => (if t259 = true then (if t244 = bt247.2 then ((api_Spot_21.f k bt251.1 bt255.1).bind fun t260 => (if t260 = true then (metrolablaw31_PointsTurns.j0 k l0 a1 (bt251.2 != bt255.2)) else (metrolablaw31_PointsTurns.j0 k l0 a1 true))) else (metrolablaw31_PointsTurns.j0 k l0 a1 true)) else (metrolablaw31_PointsTurns.j0 k l0 a1 true)))))) = some r := H
    have A6 := Aside0.mk A60
    clear A60
    replace H := Option.bind_eq_some_iff.mp H
    obtain ⟨⟨t247, t248⟩, A70, H⟩ := H
    replace H : ((points_Mirror.f l0 a1).bind fun bt251 => ((metrolabref31_Mirror.f k l0 a1).bind fun bt255 => ((api_Spot_21.f k t243 t247).bind fun t259 => (if t259 = true then (if t244 = t248 then ((api_Spot_21.f k bt251.1 bt255.1).bind fun t260 => (if t260 = true then (metrolablaw31_PointsTurns.j0 k l0 a1 (bt251.2 != bt255.2)) else (metrolablaw31_PointsTurns.j0 k l0 a1 true))) else (metrolablaw31_PointsTurns.j0 k l0 a1 true)) else (metrolablaw31_PointsTurns.j0 k l0 a1 true))))) = some r := H
    have A7 := Aside0.mk A70
    clear A70
    replace H := Option.bind_eq_some_iff.mp H
    obtain ⟨⟨t251, t252⟩, A80, H⟩ := H
    replace H : ((metrolabref31_Mirror.f k l0 a1).bind fun bt255 => ((api_Spot_21.f k t243 t247).bind fun t259 => (if t259 = true then (if t244 = t248 then ((api_Spot_21.f k t251 bt255.1).bind fun t260 => (if t260 = true then (metrolablaw31_PointsTurns.j0 k l0 a1 (t252 != bt255.2)) else (metrolablaw31_PointsTurns.j0 k l0 a1 true))) else (metrolablaw31_PointsTurns.j0 k l0 a1 true)) else (metrolablaw31_PointsTurns.j0 k l0 a1 true)))) = some r := H
    have A8 := Aside0.mk A80
    clear A80
    replace H := Option.bind_eq_some_iff.mp H
    obtain ⟨⟨t255, t256⟩, A90, H⟩ := H
    replace H : ((api_Spot_21.f k t243 t247).bind fun t259 => (if t259 = true then (if t244 = t248 then ((api_Spot_21.f k t251 t255).bind fun t260 => (if t260 = true then (metrolablaw31_PointsTurns.j0 k l0 a1 (t252 != t256)) else (metrolablaw31_PointsTurns.j0 k l0 a1 true))) else (metrolablaw31_PointsTurns.j0 k l0 a1 true)) else (metrolablaw31_PointsTurns.j0 k l0 a1 true))) = some r := H
    have A9 := Aside0.mk A90
    clear A90
    have HC10 := Aside0.mk H
    clear H
    go_enter Try.func4, Try.ntmps4
    go_upto_region 7 with (first | ((with_reducible refine gate_callee (f := 16) rfl ?_); refine goesL_ (some 18) rfl rfl Try.func16 (by kernel_rfl) rfl #[.slice A0 l0.length c0] rfl (by (try simp only [List.map_toArray, List.map_cons, List.map_nil]); first | done | rfl | (simp only [List.length_drop, List.length_take]; rfl)) ?_; (with_reducible refine (metrolabref31_Few.calls _ _ l0 true _ ?side1 ?side2 A4.out).mono ?_); (case side1 => repeat (first | exact HR0.out | (with_reducible refine Kd.C_alloc ?_ _) | (with_reducible refine Kd.C_drewN ?_ _) | (with_reducible refine Kd.C_drew ?_))); (case side2 => exact HC0.out); rintro e w' ⟨rfl, ⟨nd, rfl⟩⟩; refine ⟨_, rfl, ?_⟩) | ((with_reducible refine gate_callee (f := 17) rfl ?_); refine goesL_ (some 25) rfl rfl Try.func17 (by kernel_rfl) rfl #[.slice A0 l0.length c0, .int .i64 a1, .int .i64 a2] rfl (by (try simp only [List.map_toArray, List.map_cons, List.map_nil]); first | done | rfl | (simp only [List.length_drop, List.length_take]; rfl)) ?_; (with_reducible refine (points_Turn.calls _ _ l0 a1 a2 t243 t244 _ ?side1 ?side2 A6.out).mono ?_); (case side1 => repeat (first | exact HR0.out | (with_reducible refine Kd.C_alloc ?_ _) | (with_reducible refine Kd.C_drewN ?_ _) | (with_reducible refine Kd.C_drew ?_))); (case side2 => exact HC0.out); rintro e w11 ⟨v245, rfl, ho0, hb⟩; refine ⟨_, rfl, ?_⟩; have n0_ := Aside0.mk (Kd.R_lower ho0 (below_size (by repeat (first | (with_reducible first | exact HB.out | apply below_alloc | apply pw_below_drewN | apply below_drew1) | exact HB.out)))); have n1_ := Aside0.mk (below_step (by repeat (first | (with_reducible first | exact HB.out | apply below_alloc | apply pw_below_drewN | apply below_drew1) | exact HB.out)) hb); clear HB; have HO246 := n0_; have HB := n1_; clear n0_ n1_; (try clear hb); (try clear hb2); (try clear hk); (try clear hi); (try clear ho0)) | ((with_reducible refine gate_callee (f := 18) rfl ?_); refine goesL_ (some 32) rfl rfl Try.func18 (by kernel_rfl) rfl #[.slice A0 l0.length c0, .int .i64 a1, .int .i64 a2] rfl (by (try simp only [List.map_toArray, List.map_cons, List.map_nil]); first | done | rfl | (simp only [List.length_drop, List.length_take]; rfl)) ?_; (with_reducible refine (metrolabref31_Turn.calls k _ _ l0 a1 a2 t247 t248 _ ?side1 ?side2 A7.out).mono ?_); (case side1 => repeat (first | exact (Kd.C_below HR0.out HB.out) | (with_reducible refine Kd.C_alloc ?_ _) | (with_reducible refine Kd.C_drewN ?_ _) | (with_reducible refine Kd.C_drew ?_))); (case side2 => exact HC0.out); rintro e w12 ⟨v249, rfl, ho0, hb⟩; refine ⟨_, rfl, ?_⟩; have n0_ := Aside0.mk (Kd.R_elder' (by (with_reducible repeat (first | apply Kd.R_alloc | apply Kd.R_drewN | apply Kd.R_drew)); exact HO246.out) (Kd.R_base ho0) hb); have n1_ := Aside0.mk (Kd.R_lower (Kd.R_new' ho0 (Kd.R_lt (by (with_reducible repeat (first | apply Kd.R_alloc | apply Kd.R_drewN | apply Kd.R_drew)); exact HO246.out))) (below_size (by repeat (first | (with_reducible first | exact HB.out | apply below_alloc | apply pw_below_drewN | apply below_drew1) | exact HB.out)))); have n2_ := Aside0.mk (below_step (by repeat (first | (with_reducible first | exact HB.out | apply below_alloc | apply pw_below_drewN | apply below_drew1) | exact HB.out)) hb); clear HO246; clear HB; have HO246 := n0_; have HO250 := n1_; have HB := n2_; clear n0_ n1_ n2_; (try clear hb); (try clear hb2); (try clear hk); (try clear hi); (try clear ho0)) | ((with_reducible refine gate_callee (f := 19) rfl ?_); refine goesL_ (some 38) rfl rfl Try.func19 (by kernel_rfl) rfl #[.slice A0 l0.length c0, .int .i64 a1] rfl (by (try simp only [List.map_toArray, List.map_cons, List.map_nil]); first | done | rfl | (simp only [List.length_drop, List.length_take]; rfl)) ?_; (with_reducible refine (points_Mirror.calls _ _ l0 a1 t251 t252 _ ?side1 ?side2 A8.out).mono ?_); (case side1 => repeat (first | exact (Kd.C_below HR0.out HB.out) | (with_reducible refine Kd.C_alloc ?_ _) | (with_reducible refine Kd.C_drewN ?_ _) | (with_reducible refine Kd.C_drew ?_))); (case side2 => exact HC0.out); rintro e w13 ⟨v253, rfl, ho0, hb⟩; refine ⟨_, rfl, ?_⟩; have n0_ := Aside0.mk (Kd.R_elder' (by (with_reducible repeat (first | apply Kd.R_alloc | apply Kd.R_drewN | apply Kd.R_drew)); exact HO246.out) (Kd.R_base ho0) hb); have n1_ := Aside0.mk (Kd.R_elder' (by (with_reducible repeat (first | apply Kd.R_alloc | apply Kd.R_drewN | apply Kd.R_drew)); exact HO250.out) (Kd.R_base ho0) hb); have n2_ := Aside0.mk (Kd.R_lower (Kd.R_new' (Kd.R_new' ho0 (Kd.R_lt (by (with_reducible repeat (first | apply Kd.R_alloc | apply Kd.R_drewN | apply Kd.R_drew)); exact HO246.out))) (Kd.R_lt (by (with_reducible repeat (first | apply Kd.R_alloc | apply Kd.R_drewN | apply Kd.R_drew)); exact HO250.out))) (below_size (by repeat (first | (with_reducible first | exact HB.out | apply below_alloc | apply pw_below_drewN | apply below_drew1) | exact HB.out)))); have n3_ := Aside0.mk (below_step (by repeat (first | (with_reducible first | exact HB.out | apply below_alloc | apply pw_below_drewN | apply below_drew1) | exact HB.out)) hb); clear HO246; clear HO250; clear HB; have HO246 := n0_; have HO250 := n1_; have HO254 := n2_; have HB := n3_; clear n0_ n1_ n2_ n3_; (try clear hb); (try clear hb2); (try clear hk); (try clear hi); (try clear ho0)) | ((with_reducible refine gate_callee (f := 20) rfl ?_); refine goesL_ (some 44) rfl rfl Try.func20 (by kernel_rfl) rfl #[.slice A0 l0.length c0, .int .i64 a1] rfl (by (try simp only [List.map_toArray, List.map_cons, List.map_nil]); first | done | rfl | (simp only [List.length_drop, List.length_take]; rfl)) ?_; (with_reducible refine (metrolabref31_Mirror.calls k _ _ l0 a1 t255 t256 _ ?side1 ?side2 A9.out).mono ?_); (case side1 => repeat (first | exact (Kd.C_below HR0.out HB.out) | (with_reducible refine Kd.C_alloc ?_ _) | (with_reducible refine Kd.C_drewN ?_ _) | (with_reducible refine Kd.C_drew ?_))); (case side2 => exact HC0.out); rintro e w14 ⟨v257, rfl, ho0, hb⟩; refine ⟨_, rfl, ?_⟩; have n0_ := Aside0.mk (Kd.R_elder' (by (with_reducible repeat (first | apply Kd.R_alloc | apply Kd.R_drewN | apply Kd.R_drew)); exact HO246.out) (Kd.R_base ho0) hb); have n1_ := Aside0.mk (Kd.R_elder' (by (with_reducible repeat (first | apply Kd.R_alloc | apply Kd.R_drewN | apply Kd.R_drew)); exact HO250.out) (Kd.R_base ho0) hb); have n2_ := Aside0.mk (Kd.R_elder' (by (with_reducible repeat (first | apply Kd.R_alloc | apply Kd.R_drewN | apply Kd.R_drew)); exact HO254.out) (Kd.R_base ho0) hb); have n3_ := Aside0.mk (Kd.R_lower (Kd.R_new' (Kd.R_new' (Kd.R_new' ho0 (Kd.R_lt (by (with_reducible repeat (first | apply Kd.R_alloc | apply Kd.R_drewN | apply Kd.R_drew)); exact HO246.out))) (Kd.R_lt (by (with_reducible repeat (first | apply Kd.R_alloc | apply Kd.R_drewN | apply Kd.R_drew)); exact HO250.out))) (Kd.R_lt (by (with_reducible repeat (first | apply Kd.R_alloc | apply Kd.R_drewN | apply Kd.R_drew)); exact HO254.out))) (below_size (by repeat (first | (with_reducible first | exact HB.out | apply below_alloc | apply pw_below_drewN | apply below_drew1) | exact HB.out)))); have n4_ := Aside0.mk (below_step (by repeat (first | (with_reducible first | exact HB.out | apply below_alloc | apply pw_below_drewN | apply below_drew1) | exact HB.out)) hb); clear HO246; clear HO250; clear HO254; clear HB; have HO246 := n0_; have HO250 := n1_; have HO254 := n2_; have HO258 := n3_; have HB := n4_; clear n0_ n1_ n2_ n3_ n4_; (try clear hb); (try clear hb2); (try clear hk); (try clear hi); (try clear ho0)))
    (try simp only [Act.put, List.setIfInBounds_toArray, List.set_cons_zero, List.set_cons_succ])
    go_cut [66] (fun v66 wc => ∃ (kq : Nat) (x66_9 : Bool), v66 = .bool x66_9 ∧ Aside0 (metrolablaw31_PointsTurns.j0 kq l0 a1 x66_9 = some r) ∧ Aside0 (kq ≤ k) ∧ Aside0 (Below w.heap.size w wc))
    case first =>
      have H := HC10.out
      clear HC10
      replace H := Option.bind_eq_some_iff.mp H
      obtain ⟨t259, A150, H⟩ := H
      replace H : (if t259 = true then (if t244 = t248 then ((api_Spot_21.f k t251 t255).bind fun t260 => (if t260 = true then (metrolablaw31_PointsTurns.j0 k l0 a1 (t252 != t256)) else (metrolablaw31_PointsTurns.j0 k l0 a1 true))) else (metrolablaw31_PointsTurns.j0 k l0 a1 true)) else (metrolablaw31_PointsTurns.j0 k l0 a1 true)) = some r := H
      have A15 := Aside0.mk A150
      clear A150
      by_cases c16 : t259 = true
      · subst c16
        have H1 : (if t244 = t248 then ((api_Spot_21.f k t251 t255).bind fun t260 => (if t260 = true then (metrolablaw31_PointsTurns.j0 k l0 a1 (t252 != t256)) else (metrolablaw31_PointsTurns.j0 k l0 a1 true))) else (metrolablaw31_PointsTurns.j0 k l0 a1 true)) = some r := by rw [if_pos rfl] at H; exact H
        clear H
        have H := H1
        clear H1
        by_cases c17 : t244 = t248
        · rw [if_pos c17] at H
          have c17b0 : (t244 == t248) = true := beq_iff_eq.mpr c17
          have c17b1 : (t244 != t248) = false := bne_eq_false_iff_eq.mpr c17
          clear c17
          (first | rw [c17b0] | (simp only [i64_w, i32_w]; rw [c17b0]) | skip)
          replace H := Option.bind_eq_some_iff.mp H
          obtain ⟨t260, A180, H⟩ := H
          replace H : (if t260 = true then (metrolablaw31_PointsTurns.j0 k l0 a1 (t252 != t256)) else (metrolablaw31_PointsTurns.j0 k l0 a1 true)) = some r := H
          have A18 := Aside0.mk A180
          clear A180
          by_cases c19 : t260 = true
          · subst c19
            have H1 : (metrolablaw31_PointsTurns.j0 k l0 a1 (t252 != t256)) = some r := by rw [if_pos rfl] at H; exact H
            clear H
            have H := H1
            clear H1
            have H' := Aside0.mk H
            clear H
            obtain ⟨Ao20, co20, eo20⟩ := Kd.R_slice HO246.out
            subst eo20
            obtain ⟨Ao21, co21, eo21⟩ := Kd.R_slice HO250.out
            subst eo21
            go_wp2_with (first | ((with_reducible refine gate_callee (f := 21) rfl ?_); refine goesL_ (some 49) rfl rfl Try.func21 (by kernel_rfl) rfl #[.slice Ao20 t243.length co20, .slice Ao21 t247.length co21] rfl (by (try simp only [List.map_toArray, List.map_cons, List.map_nil]); first | done | rfl | (simp only [List.length_drop, List.length_take]; rfl)) ?_; (with_reducible refine (api_Spot_21.calls k _ _ t243 _ _ t247 true _ ?side1 ?side2 ?side3 ?side4 A15.out).mono ?_); (case side1 => repeat (first | exact (Kd.R_reads' HO246.out).2.2 | (with_reducible refine Kd.C_alloc ?_ _) | (with_reducible refine Kd.C_drewN ?_ _) | (with_reducible refine Kd.C_drew ?_))); (case side2 => exact (Kd.R_reads' HO246.out).2.1); (case side3 => repeat (first | exact (Kd.R_reads' HO250.out).2.2 | (with_reducible refine Kd.C_alloc ?_ _) | (with_reducible refine Kd.C_drewN ?_ _) | (with_reducible refine Kd.C_drew ?_))); (case side4 => exact (Kd.R_reads' HO250.out).2.1); rintro e w' ⟨rfl, ⟨nd, rfl⟩⟩; refine ⟨_, rfl, ?_⟩; obtain ⟨Ao22, co22, eo22⟩ := Kd.R_slice HO254.out; subst eo22; obtain ⟨Ao23, co23, eo23⟩ := Kd.R_slice HO258.out; subst eo23) | (go_at_call 21; (with_reducible refine (api_Spot_21.calls k _ _ t251 _ _ t255 true _ ?side1 ?side2 ?side3 ?side4 A18.out).mono ?_); (case side1 => repeat (first | exact (Kd.R_reads' HO254.out).2.2 | (with_reducible refine Kd.C_alloc ?_ _) | (with_reducible refine Kd.C_drewN ?_ _) | (with_reducible refine Kd.C_drew ?_))); (case side2 => exact (Kd.R_reads' HO254.out).2.1); (case side3 => repeat (first | exact (Kd.R_reads' HO258.out).2.2 | (with_reducible refine Kd.C_alloc ?_ _) | (with_reducible refine Kd.C_drewN ?_ _) | (with_reducible refine Kd.C_drew ?_))); (case side4 => exact (Kd.R_reads' HO258.out).2.1); rintro e w' ⟨rfl, ⟨nd, rfl⟩⟩))
            go_meet
            case rel => exact ⟨_, ((t252 != t256)), (by first | rfl | (simp; done) | (simp [*]; done)), H', ⟨by first | omega | exact Nat.le_refl _⟩, ⟨by repeat (first | (with_reducible first | exact HB.out | apply below_alloc | apply pw_below_drewN | apply below_drew1) | exact HB.out)⟩⟩
          · replace c19 := Bool.eq_false_iff.mpr c19
            subst c19
            have H1 : (metrolablaw31_PointsTurns.j0 k l0 a1 true) = some r := by rw [if_neg (show ¬ (false = true) by decide)] at H; exact H
            clear H
            have H := H1
            clear H1
            have H' := Aside0.mk H
            clear H
            obtain ⟨Ao24, co24, eo24⟩ := Kd.R_slice HO246.out
            subst eo24
            obtain ⟨Ao25, co25, eo25⟩ := Kd.R_slice HO250.out
            subst eo25
            go_wp2_with (first | ((with_reducible refine gate_callee (f := 21) rfl ?_); refine goesL_ (some 49) rfl rfl Try.func21 (by kernel_rfl) rfl #[.slice Ao24 t243.length co24, .slice Ao25 t247.length co25] rfl (by (try simp only [List.map_toArray, List.map_cons, List.map_nil]); first | done | rfl | (simp only [List.length_drop, List.length_take]; rfl)) ?_; (with_reducible refine (api_Spot_21.calls k _ _ t243 _ _ t247 true _ ?side1 ?side2 ?side3 ?side4 A15.out).mono ?_); (case side1 => repeat (first | exact (Kd.R_reads' HO246.out).2.2 | (with_reducible refine Kd.C_alloc ?_ _) | (with_reducible refine Kd.C_drewN ?_ _) | (with_reducible refine Kd.C_drew ?_))); (case side2 => exact (Kd.R_reads' HO246.out).2.1); (case side3 => repeat (first | exact (Kd.R_reads' HO250.out).2.2 | (with_reducible refine Kd.C_alloc ?_ _) | (with_reducible refine Kd.C_drewN ?_ _) | (with_reducible refine Kd.C_drew ?_))); (case side4 => exact (Kd.R_reads' HO250.out).2.1); rintro e w' ⟨rfl, ⟨nd, rfl⟩⟩; refine ⟨_, rfl, ?_⟩; obtain ⟨Ao26, co26, eo26⟩ := Kd.R_slice HO254.out; subst eo26; obtain ⟨Ao27, co27, eo27⟩ := Kd.R_slice HO258.out; subst eo27) | (go_at_call 21; (with_reducible refine (api_Spot_21.calls k _ _ t251 _ _ t255 false _ ?side1 ?side2 ?side3 ?side4 A18.out).mono ?_); (case side1 => repeat (first | exact (Kd.R_reads' HO254.out).2.2 | (with_reducible refine Kd.C_alloc ?_ _) | (with_reducible refine Kd.C_drewN ?_ _) | (with_reducible refine Kd.C_drew ?_))); (case side2 => exact (Kd.R_reads' HO254.out).2.1); (case side3 => repeat (first | exact (Kd.R_reads' HO258.out).2.2 | (with_reducible refine Kd.C_alloc ?_ _) | (with_reducible refine Kd.C_drewN ?_ _) | (with_reducible refine Kd.C_drew ?_))); (case side4 => exact (Kd.R_reads' HO258.out).2.1); rintro e w' ⟨rfl, ⟨nd, rfl⟩⟩))
            go_meet
            case rel => exact ⟨_, (true), (by first | rfl | (simp; done) | (simp [*]; done)), H', ⟨by first | omega | exact Nat.le_refl _⟩, ⟨by repeat (first | (with_reducible first | exact HB.out | apply below_alloc | apply pw_below_drewN | apply below_drew1) | exact HB.out)⟩⟩
        · rw [if_neg c17] at H
          have c17b0 : (t244 == t248) = false := beq_eq_false_iff_ne.mpr c17
          have c17b1 : (t244 != t248) = true := bne_iff_ne.mpr c17
          (first | rw [c17b0] | (simp only [i64_w, i32_w]; rw [c17b0]) | skip)
          have H' := Aside0.mk H
          clear H
          obtain ⟨Ao28, co28, eo28⟩ := Kd.R_slice HO246.out
          subst eo28
          obtain ⟨Ao29, co29, eo29⟩ := Kd.R_slice HO250.out
          subst eo29
          go_wp2_with (first | ((with_reducible refine gate_callee (f := 21) rfl ?_); refine goesL_ (some 49) rfl rfl Try.func21 (by kernel_rfl) rfl #[.slice Ao28 t243.length co28, .slice Ao29 t247.length co29] rfl (by (try simp only [List.map_toArray, List.map_cons, List.map_nil]); first | done | rfl | (simp only [List.length_drop, List.length_take]; rfl)) ?_; (with_reducible refine (api_Spot_21.calls k _ _ t243 _ _ t247 true _ ?side1 ?side2 ?side3 ?side4 A15.out).mono ?_); (case side1 => repeat (first | exact (Kd.R_reads' HO246.out).2.2 | (with_reducible refine Kd.C_alloc ?_ _) | (with_reducible refine Kd.C_drewN ?_ _) | (with_reducible refine Kd.C_drew ?_))); (case side2 => exact (Kd.R_reads' HO246.out).2.1); (case side3 => repeat (first | exact (Kd.R_reads' HO250.out).2.2 | (with_reducible refine Kd.C_alloc ?_ _) | (with_reducible refine Kd.C_drewN ?_ _) | (with_reducible refine Kd.C_drew ?_))); (case side4 => exact (Kd.R_reads' HO250.out).2.1); rintro e w' ⟨rfl, ⟨nd, rfl⟩⟩; refine ⟨_, rfl, ?_⟩))
          go_meet
          case rel => exact ⟨_, (true), (by first | rfl | (simp; done) | (simp [*]; done)), H', ⟨by first | omega | exact Nat.le_refl _⟩, ⟨by repeat (first | (with_reducible first | exact HB.out | apply below_alloc | apply pw_below_drewN | apply below_drew1) | exact HB.out)⟩⟩
      · replace c16 := Bool.eq_false_iff.mpr c16
        subst c16
        have H1 : (metrolablaw31_PointsTurns.j0 k l0 a1 true) = some r := by rw [if_neg (show ¬ (false = true) by decide)] at H; exact H
        clear H
        have H := H1
        clear H1
        have H' := Aside0.mk H
        clear H
        obtain ⟨Ao30, co30, eo30⟩ := Kd.R_slice HO246.out
        subst eo30
        obtain ⟨Ao31, co31, eo31⟩ := Kd.R_slice HO250.out
        subst eo31
        go_wp2_with (first | ((with_reducible refine gate_callee (f := 21) rfl ?_); refine goesL_ (some 49) rfl rfl Try.func21 (by kernel_rfl) rfl #[.slice Ao30 t243.length co30, .slice Ao31 t247.length co31] rfl (by (try simp only [List.map_toArray, List.map_cons, List.map_nil]); first | done | rfl | (simp only [List.length_drop, List.length_take]; rfl)) ?_; (with_reducible refine (api_Spot_21.calls k _ _ t243 _ _ t247 false _ ?side1 ?side2 ?side3 ?side4 A15.out).mono ?_); (case side1 => repeat (first | exact (Kd.R_reads' HO246.out).2.2 | (with_reducible refine Kd.C_alloc ?_ _) | (with_reducible refine Kd.C_drewN ?_ _) | (with_reducible refine Kd.C_drew ?_))); (case side2 => exact (Kd.R_reads' HO246.out).2.1); (case side3 => repeat (first | exact (Kd.R_reads' HO250.out).2.2 | (with_reducible refine Kd.C_alloc ?_ _) | (with_reducible refine Kd.C_drewN ?_ _) | (with_reducible refine Kd.C_drew ?_))); (case side4 => exact (Kd.R_reads' HO250.out).2.1); rintro e w' ⟨rfl, ⟨nd, rfl⟩⟩; refine ⟨_, rfl, ?_⟩))
        go_meet
        case rel => exact ⟨_, (true), (by first | rfl | (simp; done) | (simp [*]; done)), H', ⟨by first | omega | exact Nat.le_refl _⟩, ⟨by repeat (first | (with_reducible first | exact HB.out | apply below_alloc | apply pw_below_drewN | apply below_drew1) | exact HB.out)⟩⟩
    case rest =>
      clear HC10
      try clear c1
      try clear c2
      try clear p2
      try clear c4
      try clear c5
      try clear c16
      try clear c17
      try clear c17b0
      try clear c17b1
      try clear c18
      try clear c19
      try clear c20
      try clear c21
      obtain ⟨kq, x66_9, rfl, HA, HJ9, HB⟩ := hcut
      cases kq with
      | zero => exact absurd HA.out (by simp [metrolablaw31_PointsTurns.j0])
      | succ kj9 =>
        have H := HA.out
        clear HA
        simp only [metrolablaw31_PointsTurns.j0] at H
        by_cases c32 : x66_9 = true
        · subst c32
          have H1 : (some false) = some r := by rw [if_pos rfl] at H; exact H
          clear H
          have H := H1
          clear H1
          obtain rfl := Option.some.inj H
          go_wp2
          go_ret
          exact ⟨by first | rfl | (simp [errW_none, errW_some] <;> rfl) | (simp [*, errW_none, errW_some] <;> rfl), by repeat (first | (with_reducible first | exact HB.out | apply below_alloc | apply pw_below_drewN | apply below_drew1) | exact HB.out)⟩
        · replace c32 := Bool.eq_false_iff.mpr c32
          subst c32
          have H1 : ((points_Flatten.f l0 a1).bind fun bt261 => ((metrolabref31_Flatten.f kj9 l0 a1).bind fun bt265 => ((api_Point_24.f kj9 bt261.1 bt265.1).bind fun t269 => (if t269 = true then (if bt261.2 = bt265.2 then ((metrolablaw31_awake.f kj9).bind fun t270 => (some t270)) else (some false)) else (some false))))) = some r := by rw [if_neg (show ¬ (false = true) by decide)] at H; exact H
          clear H
          have H := H1
          clear H1
          replace H := Option.bind_eq_some_iff.mp H
          obtain ⟨⟨t261, t262⟩, A330, H⟩ := H
          replace H : ((metrolabref31_Flatten.f kj9 l0 a1).bind fun bt265 => ((api_Point_24.f kj9 t261 bt265.1).bind fun t269 => (if t269 = true then (if t262 = bt265.2 then ((metrolablaw31_awake.f kj9).bind fun t270 => (some t270)) else (some false)) else (some false)))) = some r := H
          have A33 := Aside0.mk A330
          clear A330
          replace H := Option.bind_eq_some_iff.mp H
          obtain ⟨⟨t265, t266⟩, A340, H⟩ := H
          replace H : ((api_Point_24.f kj9 t261 t265).bind fun t269 => (if t269 = true then (if t262 = t266 then ((metrolablaw31_awake.f kj9).bind fun t270 => (some t270)) else (some false)) else (some false))) = some r := H
          have A34 := Aside0.mk A340
          clear A340
          replace H := Option.bind_eq_some_iff.mp H
          obtain ⟨t269, A350, H⟩ := H
          replace H : (if t269 = true then (if t262 = t266 then ((metrolablaw31_awake.f kj9).bind fun t270 => (some t270)) else (some false)) else (some false)) = some r := H
          have A35 := Aside0.mk A350
          clear A350
          by_cases c36 : t269 = true
          · subst c36
            have H1 : (if t262 = t266 then ((metrolablaw31_awake.f kj9).bind fun t270 => (some t270)) else (some false)) = some r := by rw [if_pos rfl] at H; exact H
            clear H
            have H := H1
            clear H1
            by_cases c37 : t262 = t266
            · rw [if_pos c37] at H
              have c37b0 : (t262 == t266) = true := beq_iff_eq.mpr c37
              have c37b1 : (t262 != t266) = false := bne_eq_false_iff_eq.mpr c37
              clear c37
              replace H := Option.bind_eq_some_iff.mp H
              obtain ⟨t270, A380, H⟩ := H
              replace H : (some t270) = some r := H
              have A38 := Aside0.mk A380
              clear A380
              obtain rfl := Option.some.inj H
              go_wp2_with (first | ((with_reducible refine gate_callee (f := 22) rfl ?_); refine goesL_ (some 70) rfl rfl Try.func22 (by kernel_rfl) rfl #[.slice A0 l0.length c0, .int .i64 a1] rfl (by (try simp only [List.map_toArray, List.map_cons, List.map_nil]); first | done | rfl | (simp only [List.length_drop, List.length_take]; rfl)) ?_; (with_reducible refine (points_Flatten.calls _ _ l0 a1 t261 t262 _ ?side1 ?side2 A33.out).mono ?_); (case side1 => repeat (first | exact (Kd.C_below HR0.out HB.out) | (with_reducible refine Kd.C_alloc ?_ _) | (with_reducible refine Kd.C_drewN ?_ _) | (with_reducible refine Kd.C_drew ?_))); (case side2 => exact HC0.out); rintro e w39 ⟨v263, rfl, ho0, hb⟩; refine ⟨_, rfl, ?_⟩; have n0_ := Aside0.mk (Kd.R_lower ho0 (below_size (by repeat (first | (with_reducible first | exact HB.out | apply below_alloc | apply pw_below_drewN | apply below_drew1) | exact HB.out)))); have n1_ := Aside0.mk (below_step (by repeat (first | (with_reducible first | exact HB.out | apply below_alloc | apply pw_below_drewN | apply below_drew1) | exact HB.out)) hb); clear HB; have HO264 := n0_; have HB := n1_; clear n0_ n1_; (try clear hb); (try clear hb2); (try clear hk); (try clear hi); (try clear ho0)) | ((with_reducible refine gate_callee (f := 23) rfl ?_); refine goesL_ (some 76) rfl rfl Try.func23 (by kernel_rfl) rfl #[.slice A0 l0.length c0, .int .i64 a1] rfl (by (try simp only [List.map_toArray, List.map_cons, List.map_nil]); first | done | rfl | (simp only [List.length_drop, List.length_take]; rfl)) ?_; (with_reducible refine (metrolabref31_Flatten.calls kj9 _ _ l0 a1 t265 t266 _ ?side1 ?side2 A34.out).mono ?_); (case side1 => repeat (first | exact (Kd.C_below HR0.out HB.out) | (with_reducible refine Kd.C_alloc ?_ _) | (with_reducible refine Kd.C_drewN ?_ _) | (with_reducible refine Kd.C_drew ?_))); (case side2 => exact HC0.out); rintro e w40 ⟨v267, rfl, ho0, hb⟩; refine ⟨_, rfl, ?_⟩; have n0_ := Aside0.mk (Kd.R_elder' (by (with_reducible repeat (first | apply Kd.R_alloc | apply Kd.R_drewN | apply Kd.R_drew)); exact HO264.out) (Kd.R_base ho0) hb); have n1_ := Aside0.mk (Kd.R_lower (Kd.R_new' ho0 (Kd.R_lt (by (with_reducible repeat (first | apply Kd.R_alloc | apply Kd.R_drewN | apply Kd.R_drew)); exact HO264.out))) (below_size (by repeat (first | (with_reducible first | exact HB.out | apply below_alloc | apply pw_below_drewN | apply below_drew1) | exact HB.out)))); have n2_ := Aside0.mk (below_step (by repeat (first | (with_reducible first | exact HB.out | apply below_alloc | apply pw_below_drewN | apply below_drew1) | exact HB.out)) hb); clear HO264; clear HB; have HO264 := n0_; have HO268 := n1_; have HB := n2_; clear n0_ n1_ n2_; (try clear hb); (try clear hb2); (try clear hk); (try clear hi); (try clear ho0); obtain ⟨Ao41, co41, eo41⟩ := Kd.R_slice HO264.out; subst eo41; obtain ⟨Ao42, co42, eo42⟩ := Kd.R_slice HO268.out; subst eo42) | ((with_reducible refine gate_callee (f := 24) rfl ?_); refine goesL_ (some 81) rfl rfl Try.func24 (by kernel_rfl) rfl #[.slice Ao41 t261.length co41, .slice Ao42 t265.length co42] rfl (by (try simp only [List.map_toArray, List.map_cons, List.map_nil]); first | done | rfl | (simp only [List.length_drop, List.length_take]; rfl)) ?_; (with_reducible refine (api_Point_24.calls kj9 _ _ t261 _ _ t265 true _ ?side1 ?side2 ?side3 ?side4 A35.out).mono ?_); (case side1 => repeat (first | exact (Kd.R_reads' HO264.out).2.2 | (with_reducible refine Kd.C_alloc ?_ _) | (with_reducible refine Kd.C_drewN ?_ _) | (with_reducible refine Kd.C_drew ?_))); (case side2 => exact (Kd.R_reads' HO264.out).2.1); (case side3 => repeat (first | exact (Kd.R_reads' HO268.out).2.2 | (with_reducible refine Kd.C_alloc ?_ _) | (with_reducible refine Kd.C_drewN ?_ _) | (with_reducible refine Kd.C_drew ?_))); (case side4 => exact (Kd.R_reads' HO268.out).2.1); rintro e w' ⟨rfl, ⟨nd, rfl⟩⟩; refine ⟨_, rfl, ?_⟩) | (go_at_call 13; (with_reducible refine (metrolablaw31_awake.calls kj9  t270 _ A38.out).mono ?_); rintro e w43 ⟨rfl, hb⟩; have n0_ := Aside0.mk (Kd.R_below (by (with_reducible repeat (first | apply Kd.R_alloc | apply Kd.R_drewN | apply Kd.R_drew)); exact HO264.out) hb); have n1_ := Aside0.mk (Kd.R_below (by (with_reducible repeat (first | apply Kd.R_alloc | apply Kd.R_drewN | apply Kd.R_drew)); exact HO268.out) hb); have n2_ := Aside0.mk (below_step (by repeat (first | (with_reducible first | exact HB.out | apply below_alloc | apply pw_below_drewN | apply below_drew1) | exact HB.out)) hb); clear HO264; clear HO268; clear HB; have HO264 := n0_; have HO268 := n1_; have HB := n2_; clear n0_ n1_ n2_; (try clear hb); (try clear hb2); (try clear hk); (try clear hi)))
              go_ret
              exact ⟨by first | rfl | (simp [errW_none, errW_some] <;> rfl) | (simp [*, errW_none, errW_some] <;> rfl), by repeat (first | (with_reducible first | exact HB.out | apply below_alloc | apply pw_below_drewN | apply below_drew1) | exact HB.out)⟩
            · rw [if_neg c37] at H
              have c37b0 : (t262 == t266) = false := beq_eq_false_iff_ne.mpr c37
              have c37b1 : (t262 != t266) = true := bne_iff_ne.mpr c37
              obtain rfl := Option.some.inj H
              go_wp2_with (first | ((with_reducible refine gate_callee (f := 22) rfl ?_); refine goesL_ (some 70) rfl rfl Try.func22 (by kernel_rfl) rfl #[.slice A0 l0.length c0, .int .i64 a1] rfl (by (try simp only [List.map_toArray, List.map_cons, List.map_nil]); first | done | rfl | (simp only [List.length_drop, List.length_take]; rfl)) ?_; (with_reducible refine (points_Flatten.calls _ _ l0 a1 t261 t262 _ ?side1 ?side2 A33.out).mono ?_); (case side1 => repeat (first | exact (Kd.C_below HR0.out HB.out) | (with_reducible refine Kd.C_alloc ?_ _) | (with_reducible refine Kd.C_drewN ?_ _) | (with_reducible refine Kd.C_drew ?_))); (case side2 => exact HC0.out); rintro e w44 ⟨v263, rfl, ho0, hb⟩; refine ⟨_, rfl, ?_⟩; have n0_ := Aside0.mk (Kd.R_lower ho0 (below_size (by repeat (first | (with_reducible first | exact HB.out | apply below_alloc | apply pw_below_drewN | apply below_drew1) | exact HB.out)))); have n1_ := Aside0.mk (below_step (by repeat (first | (with_reducible first | exact HB.out | apply below_alloc | apply pw_below_drewN | apply below_drew1) | exact HB.out)) hb); clear HB; have HO264 := n0_; have HB := n1_; clear n0_ n1_; (try clear hb); (try clear hb2); (try clear hk); (try clear hi); (try clear ho0)) | ((with_reducible refine gate_callee (f := 23) rfl ?_); refine goesL_ (some 76) rfl rfl Try.func23 (by kernel_rfl) rfl #[.slice A0 l0.length c0, .int .i64 a1] rfl (by (try simp only [List.map_toArray, List.map_cons, List.map_nil]); first | done | rfl | (simp only [List.length_drop, List.length_take]; rfl)) ?_; (with_reducible refine (metrolabref31_Flatten.calls kj9 _ _ l0 a1 t265 t266 _ ?side1 ?side2 A34.out).mono ?_); (case side1 => repeat (first | exact (Kd.C_below HR0.out HB.out) | (with_reducible refine Kd.C_alloc ?_ _) | (with_reducible refine Kd.C_drewN ?_ _) | (with_reducible refine Kd.C_drew ?_))); (case side2 => exact HC0.out); rintro e w45 ⟨v267, rfl, ho0, hb⟩; refine ⟨_, rfl, ?_⟩; have n0_ := Aside0.mk (Kd.R_elder' (by (with_reducible repeat (first | apply Kd.R_alloc | apply Kd.R_drewN | apply Kd.R_drew)); exact HO264.out) (Kd.R_base ho0) hb); have n1_ := Aside0.mk (Kd.R_lower (Kd.R_new' ho0 (Kd.R_lt (by (with_reducible repeat (first | apply Kd.R_alloc | apply Kd.R_drewN | apply Kd.R_drew)); exact HO264.out))) (below_size (by repeat (first | (with_reducible first | exact HB.out | apply below_alloc | apply pw_below_drewN | apply below_drew1) | exact HB.out)))); have n2_ := Aside0.mk (below_step (by repeat (first | (with_reducible first | exact HB.out | apply below_alloc | apply pw_below_drewN | apply below_drew1) | exact HB.out)) hb); clear HO264; clear HB; have HO264 := n0_; have HO268 := n1_; have HB := n2_; clear n0_ n1_ n2_; (try clear hb); (try clear hb2); (try clear hk); (try clear hi); (try clear ho0); obtain ⟨Ao46, co46, eo46⟩ := Kd.R_slice HO264.out; subst eo46; obtain ⟨Ao47, co47, eo47⟩ := Kd.R_slice HO268.out; subst eo47) | ((with_reducible refine gate_callee (f := 24) rfl ?_); refine goesL_ (some 81) rfl rfl Try.func24 (by kernel_rfl) rfl #[.slice Ao46 t261.length co46, .slice Ao47 t265.length co47] rfl (by (try simp only [List.map_toArray, List.map_cons, List.map_nil]); first | done | rfl | (simp only [List.length_drop, List.length_take]; rfl)) ?_; (with_reducible refine (api_Point_24.calls kj9 _ _ t261 _ _ t265 true _ ?side1 ?side2 ?side3 ?side4 A35.out).mono ?_); (case side1 => repeat (first | exact (Kd.R_reads' HO264.out).2.2 | (with_reducible refine Kd.C_alloc ?_ _) | (with_reducible refine Kd.C_drewN ?_ _) | (with_reducible refine Kd.C_drew ?_))); (case side2 => exact (Kd.R_reads' HO264.out).2.1); (case side3 => repeat (first | exact (Kd.R_reads' HO268.out).2.2 | (with_reducible refine Kd.C_alloc ?_ _) | (with_reducible refine Kd.C_drewN ?_ _) | (with_reducible refine Kd.C_drew ?_))); (case side4 => exact (Kd.R_reads' HO268.out).2.1); rintro e w' ⟨rfl, ⟨nd, rfl⟩⟩; refine ⟨_, rfl, ?_⟩))
              go_ret
              exact ⟨by first | rfl | (simp [errW_none, errW_some] <;> rfl) | (simp [*, errW_none, errW_some] <;> rfl), by repeat (first | (with_reducible first | exact HB.out | apply below_alloc | apply pw_below_drewN | apply below_drew1) | exact HB.out)⟩
          · replace c36 := Bool.eq_false_iff.mpr c36
            subst c36
            have H1 : (some false) = some r := by rw [if_neg (show ¬ (false = true) by decide)] at H; exact H
            clear H
            have H := H1
            clear H1
            obtain rfl := Option.some.inj H
            go_wp2_with (first | ((with_reducible refine gate_callee (f := 22) rfl ?_); refine goesL_ (some 70) rfl rfl Try.func22 (by kernel_rfl) rfl #[.slice A0 l0.length c0, .int .i64 a1] rfl (by (try simp only [List.map_toArray, List.map_cons, List.map_nil]); first | done | rfl | (simp only [List.length_drop, List.length_take]; rfl)) ?_; (with_reducible refine (points_Flatten.calls _ _ l0 a1 t261 t262 _ ?side1 ?side2 A33.out).mono ?_); (case side1 => repeat (first | exact (Kd.C_below HR0.out HB.out) | (with_reducible refine Kd.C_alloc ?_ _) | (with_reducible refine Kd.C_drewN ?_ _) | (with_reducible refine Kd.C_drew ?_))); (case side2 => exact HC0.out); rintro e w48 ⟨v263, rfl, ho0, hb⟩; refine ⟨_, rfl, ?_⟩; have n0_ := Aside0.mk (Kd.R_lower ho0 (below_size (by repeat (first | (with_reducible first | exact HB.out | apply below_alloc | apply pw_below_drewN | apply below_drew1) | exact HB.out)))); have n1_ := Aside0.mk (below_step (by repeat (first | (with_reducible first | exact HB.out | apply below_alloc | apply pw_below_drewN | apply below_drew1) | exact HB.out)) hb); clear HB; have HO264 := n0_; have HB := n1_; clear n0_ n1_; (try clear hb); (try clear hb2); (try clear hk); (try clear hi); (try clear ho0)) | ((with_reducible refine gate_callee (f := 23) rfl ?_); refine goesL_ (some 76) rfl rfl Try.func23 (by kernel_rfl) rfl #[.slice A0 l0.length c0, .int .i64 a1] rfl (by (try simp only [List.map_toArray, List.map_cons, List.map_nil]); first | done | rfl | (simp only [List.length_drop, List.length_take]; rfl)) ?_; (with_reducible refine (metrolabref31_Flatten.calls kj9 _ _ l0 a1 t265 t266 _ ?side1 ?side2 A34.out).mono ?_); (case side1 => repeat (first | exact (Kd.C_below HR0.out HB.out) | (with_reducible refine Kd.C_alloc ?_ _) | (with_reducible refine Kd.C_drewN ?_ _) | (with_reducible refine Kd.C_drew ?_))); (case side2 => exact HC0.out); rintro e w49 ⟨v267, rfl, ho0, hb⟩; refine ⟨_, rfl, ?_⟩; have n0_ := Aside0.mk (Kd.R_elder' (by (with_reducible repeat (first | apply Kd.R_alloc | apply Kd.R_drewN | apply Kd.R_drew)); exact HO264.out) (Kd.R_base ho0) hb); have n1_ := Aside0.mk (Kd.R_lower (Kd.R_new' ho0 (Kd.R_lt (by (with_reducible repeat (first | apply Kd.R_alloc | apply Kd.R_drewN | apply Kd.R_drew)); exact HO264.out))) (below_size (by repeat (first | (with_reducible first | exact HB.out | apply below_alloc | apply pw_below_drewN | apply below_drew1) | exact HB.out)))); have n2_ := Aside0.mk (below_step (by repeat (first | (with_reducible first | exact HB.out | apply below_alloc | apply pw_below_drewN | apply below_drew1) | exact HB.out)) hb); clear HO264; clear HB; have HO264 := n0_; have HO268 := n1_; have HB := n2_; clear n0_ n1_ n2_; (try clear hb); (try clear hb2); (try clear hk); (try clear hi); (try clear ho0); obtain ⟨Ao50, co50, eo50⟩ := Kd.R_slice HO264.out; subst eo50; obtain ⟨Ao51, co51, eo51⟩ := Kd.R_slice HO268.out; subst eo51) | ((with_reducible refine gate_callee (f := 24) rfl ?_); refine goesL_ (some 81) rfl rfl Try.func24 (by kernel_rfl) rfl #[.slice Ao50 t261.length co50, .slice Ao51 t265.length co51] rfl (by (try simp only [List.map_toArray, List.map_cons, List.map_nil]); first | done | rfl | (simp only [List.length_drop, List.length_take]; rfl)) ?_; (with_reducible refine (api_Point_24.calls kj9 _ _ t261 _ _ t265 false _ ?side1 ?side2 ?side3 ?side4 A35.out).mono ?_); (case side1 => repeat (first | exact (Kd.R_reads' HO264.out).2.2 | (with_reducible refine Kd.C_alloc ?_ _) | (with_reducible refine Kd.C_drewN ?_ _) | (with_reducible refine Kd.C_drew ?_))); (case side2 => exact (Kd.R_reads' HO264.out).2.1); (case side3 => repeat (first | exact (Kd.R_reads' HO268.out).2.2 | (with_reducible refine Kd.C_alloc ?_ _) | (with_reducible refine Kd.C_drewN ?_ _) | (with_reducible refine Kd.C_drew ?_))); (case side4 => exact (Kd.R_reads' HO268.out).2.1); rintro e w' ⟨rfl, ⟨nd, rfl⟩⟩; refine ⟨_, rfl, ?_⟩))
            go_ret
            exact ⟨by first | rfl | (simp [errW_none, errW_some] <;> rfl) | (simp [*, errW_none, errW_some] <;> rfl), by repeat (first | (with_reducible first | exact HB.out | apply below_alloc | apply pw_below_drewN | apply below_drew1) | exact HB.out)⟩
  · replace c5 := Bool.eq_false_iff.mpr c5
    subst c5
    have H1 : ((metrolablaw31_awake.f k).bind fun t242 => (some t242)) = some r := by rw [if_neg (show ¬ (false = true) by decide)] at H; exact H
    clear H
    have H := H1
    clear H1
    replace H := Option.bind_eq_some_iff.mp H
    obtain ⟨t242, A520, H⟩ := H
    replace H : (some t242) = some r := H
    have A52 := Aside0.mk A520
    clear A520
    obtain rfl := Option.some.inj H
    go_enter Try.func4, Try.ntmps4
    go_wp2_with (first | ((with_reducible refine gate_callee (f := 16) rfl ?_); refine goesL_ (some 18) rfl rfl Try.func16 (by kernel_rfl) rfl #[.slice A0 l0.length c0] rfl (by (try simp only [List.map_toArray, List.map_cons, List.map_nil]); first | done | rfl | (simp only [List.length_drop, List.length_take]; rfl)) ?_; (with_reducible refine (metrolabref31_Few.calls _ _ l0 false _ ?side1 ?side2 A4.out).mono ?_); (case side1 => repeat (first | exact HR0.out | (with_reducible refine Kd.C_alloc ?_ _) | (with_reducible refine Kd.C_drewN ?_ _) | (with_reducible refine Kd.C_drew ?_))); (case side2 => exact HC0.out); rintro e w' ⟨rfl, ⟨nd, rfl⟩⟩; refine ⟨_, rfl, ?_⟩) | ((with_reducible refine gate_callee (f := 13) rfl ?_); refine goesL_ (some 20) rfl rfl Try.func13 (by kernel_rfl) rfl #[] rfl (by (try simp only [List.map_toArray, List.map_cons, List.map_nil]); first | done | rfl | (simp only [List.length_drop, List.length_take]; rfl)) ?_; (with_reducible refine (metrolablaw31_awake.calls k  t242 _ A52.out).mono ?_); rintro e w53 ⟨rfl, hb⟩; refine ⟨_, rfl, ?_⟩; have n0_ := Aside0.mk (below_step (by repeat (first | (with_reducible first | exact HB.out | apply below_alloc | apply pw_below_drewN | apply below_drew1) | exact HB.out)) hb); clear HB; have HB := n0_; clear n0_; (try clear hb); (try clear hb2); (try clear hk); (try clear hi)))
    go_ret
    exact ⟨by first | rfl | (simp [errW_none, errW_some] <;> rfl) | (simp [*, errW_none, errW_some] <;> rfl), by repeat (first | (with_reducible first | exact HB.out | apply below_alloc | apply pw_below_drewN | apply below_drew1) | exact HB.out)⟩

end Go.Proofs.Ytgfkodanekfekaa.X

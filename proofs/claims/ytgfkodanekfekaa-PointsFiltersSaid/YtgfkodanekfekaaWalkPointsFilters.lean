/- The law PointsFilters walked: Unique, Sorted, Thin and Box answer as the reference does, for all samples and gaps. -/
import Derived.Test.YtgfkodanekfekaaWalkSame
import Derived.Test.YtgfkodanekfekaaBaseRefSort
import Derived.Test.YtgfkodanekfekaaBaseThin
import Derived.Test.YtgfkodanekfekaaBaseBox
import Derived.Test.YtgfkodanekfekaaX5
namespace Go.Proofs.Ytgfkodanekfekaa.X
open Go.RowKit Go.Proofs.YtgfkodanekfekaaW.PrintWords Go.Proofs.YtgfkodanekfekaaW.PrintLast Go.Proofs.YtgfkodanekfekaaW.PrintMore
set_option linter.unusedVariables false
set_option linter.unusedSimpArgs false
open Base (chk nubS rsame_f punique_f runique_f rsorted_f rthin_f rbox_f nubS_len chk_zero)
def metrolablaw31_PointsFilters.f (l : List S30) (g : Int) : Option Bool := some true
theorem equal_rows {A A' : Option Addr} {c c' : Nat} {l : List S30} {w : World} (hr : Kd.C k30 w A l.length l) (hc : l.length ≤ c) (hr' : Kd.C k30 w A' l.length l) (hc' : l.length ≤ c') (hl : l.length ≤ 64) :
    Calls Try.prog 21 #[.slice A l.length c, .slice A' l.length c'] w fun e w' => e = .returned (.bool true) ∧ Below w.heap.size w w' :=
  (api_Spot_21.calls 100 A c l A' c' l true w hr hc hr' hc' (by rw [Base.eq30_f l l (by omega) 100 (by omega)]; simp)).mono fun e w' ⟨he, hb⟩ => by
    obtain ⟨n, rfl⟩ := hb
    exact ⟨he, pw_below_drewN (Below.refl _ _) n⟩
set_option maxHeartbeats 4000000 in
set_option maxRecDepth 100000 in
theorem filters_far (A0 : Option Addr) (c0 : Nat) (l0 : List S30) (g : Int) (w : World) (hr0 : Kd.C k30 w A0 l0.length l0) (hc0 : l0.length ≤ c0) (h : ¬ l0.length ≤ 128) :
    Calls Try.prog 9 #[.slice A0 l0.length c0, .int .i64 g] w fun e w' => e = .returned (.bool true) ∧ Below w.heap.size w w' := by
  have HR := Aside0.mk hr0
  have HF := Aside0.mk (show metrolabref31_Few.f l0 = some false from by unfold metrolabref31_Few.f; rw [decide_eq_false (by omega)])
  clear hr0 h
  go_enter Try.func9, Try.ntmps9
  go_wp2_with fail
  refine (few_below A0 c0 l0 false _ HR.out hc0 HF.out).mono ?_
  rintro e w1 ⟨rfl, hb1⟩
  go_wp2_with fail
  refine (metrolablaw31_awake.calls 100 true _ (Base.awake_k 100 (by omega))).mono ?_
  rintro e w3 ⟨rfl, hb3⟩
  go_wp2
  go_ret
  exact ⟨rfl, hb1.trans (hb3.mono hb1.size)⟩
set_option maxHeartbeats 8000000 in
set_option maxRecDepth 100000 in
theorem filters_near (A0 : Option Addr) (c0 : Nat) (l0 : List S30) (g : Int) (w : World) (hr0 : Kd.C k30 w A0 l0.length l0) (hc0 : l0.length ≤ c0) (h : l0.length ≤ 128) :
    Calls Try.prog 9 #[.slice A0 l0.length c0, .int .i64 g] w fun e w' => e = .returned (.bool true) ∧ Below w.heap.size w w' := by
  have HR := Aside0.mk hr0
  have HF := Aside0.mk (show metrolabref31_Few.f l0 = some true from by unfold metrolabref31_Few.f; rw [decide_eq_true (by omega)])
  -- each once
  obtain ⟨⟨u, ue⟩, hu⟩ : ∃ r, (if chk l0 = 0 then (nubS l0, 0) else ([], chk l0)) = r := ⟨_, rfl⟩
  have HU := Aside0.mk (show points_Unique.f 4000 l0 = some (u, ue) from by rw [punique_f l0 4000 (Nat.le_refl _), hu])
  have HRU := Aside0.mk (show metrolabref31_Unique.f 4000 l0 = some (u, ue) from by rw [runique_f l0 4000 (Nat.le_refl _), hu])
  have HUL := Aside0.mk (show u.length ≤ 64 from by
    by_cases hz : chk l0 = 0
    · rw [if_pos hz] at hu; obtain ⟨rfl, _⟩ := Prod.mk.inj hu; have := nubS_len l0; have := (chk_zero hz).1; omega
    · rw [if_neg hz] at hu; obtain ⟨rfl, _⟩ := Prod.mk.inj hu; simp)
  -- sorted
  obtain ⟨⟨s, se⟩, hs⟩ : ∃ r, sortedR l0 = r := ⟨_, rfl⟩
  have HS := Aside0.mk (fun w hr => psorted_calls A0 c0 l0 w hr hc0)
  simp only [hs] at HS
  have HRS := Aside0.mk (show metrolabref31_Sorted.f 1000000 l0 = some (s, se) from by rw [rsorted_f l0 1000000 (Nat.le_refl _)]; unfold sortedR at hs; rw [hs])
  have HSL := Aside0.mk (show s.length ≤ 64 from by
    unfold sortedR at hs
    by_cases hz : chk l0 = 0
    · rw [if_pos hz] at hs; obtain ⟨rfl, _⟩ := Prod.mk.inj hs; rw [sortS_len]; have := nubS_len l0; have := (chk_zero hz).1; omega
    · rw [if_neg hz] at hs; obtain ⟨rfl, _⟩ := Prod.mk.inj hs; simp)
  -- thinned
  obtain ⟨⟨t, te⟩, ht, htl⟩ : ∃ r, points_Thin.f l0 g = some r ∧ r.1.length ≤ 64 := by
    unfold points_Thin.f
    rw [Base.vcheck_f, Option.bind_some]
    by_cases hz : chk l0 = 0
    · rw [if_pos hz]
      split
      · exact ⟨_, rfl, by simp⟩
      · split
        · exact ⟨_, rfl, by simp⟩
        · refine ⟨_, rfl, ?_⟩
          have := thinF_length g l0 l0.length (Nat.le_refl _)
          rw [List.take_length] at this
          have := (chk_zero hz).1
          simp only
          omega
    · rw [if_neg hz]; exact ⟨_, rfl, by simp⟩
  have HT := Aside0.mk ht
  have HTL := Aside0.mk htl
  have HRT := Aside0.mk ((rthin_f l0 g 4000 (Nat.le_refl _)).trans ht)
  -- boxes
  obtain ⟨⟨b1, b2, b3, b4, b5, b6, be⟩, hbx⟩ : ∃ r, points_Box.f l0 = some r := by
    unfold points_Box.f
    rw [Base.vcheck_f, Option.bind_some]
    split
    · split
      · exact ⟨_, rfl⟩
      · exact ⟨_, rfl⟩
    · exact ⟨_, rfl⟩
  have HBX := Aside0.mk hbx
  have HRB := Aside0.mk ((rbox_f l0 1000 (Nat.le_refl _)).trans hbx)
  clear hr0 h hu hs ht htl hbx
  have eu : (ue != ue) = false := bne_self_eq_false ue
  have es : (se != se) = false := bne_self_eq_false se
  have et : (te != te) = false := bne_self_eq_false te
  have eb : (be == be) = true := beq_self_eq_true be
  go_enter Try.func9, Try.ntmps9
  go_wp2_with fail
  refine (few_below A0 c0 l0 true _ HR.out hc0 HF.out).mono ?_
  rintro e w1 ⟨rfl, hb1⟩
  have H1 := Aside0.mk hb1
  clear hb1
  go_wp2_with fail
  refine (points_Unique.calls 4000 A0 c0 l0 u ue _ (Kd.C_below HR.out H1.out) hc0 HU.out).mono ?_
  rintro e w2 ⟨v2, rfl, ho2, hb2⟩
  obtain ⟨A2, c2, hv2, hc2, hC2⟩ := Kd.R_reads ho2
  subst hv2
  have H2 := Aside0.mk (H1.out.trans (hb2.mono H1.out.size))
  have R2 := Aside0.mk hC2
  clear ho2 hb2 hC2 H1
  go_wp2_with fail
  refine (metrolabref31_Unique.calls 4000 A0 c0 l0 u ue _ (Kd.C_below HR.out H2.out) hc0 HRU.out).mono ?_
  rintro e w3 ⟨v3, rfl, ho3, hb3⟩
  obtain ⟨A3, c3, hv3, hc3, hC3⟩ := Kd.R_reads ho3
  subst hv3
  have H3 := Aside0.mk (H2.out.trans (hb3.mono H2.out.size))
  have R2b := Aside0.mk (Kd.C_below R2.out hb3)
  have R3 := Aside0.mk hC3
  clear ho3 hb3 hC3 H2 R2
  go_wp2_with fail
  refine (HS.out _ (Kd.C_below HR.out H3.out)).mono ?_
  rintro e w4 ⟨A4, c4, rfl, hc4, hC4, hb4⟩
  have H4 := Aside0.mk (H3.out.trans (hb4.mono H3.out.size))
  have R2c := Aside0.mk (Kd.C_below R2b.out hb4)
  have R3c := Aside0.mk (Kd.C_below R3.out hb4)
  have R4 := Aside0.mk hC4
  clear hb4 hC4 H3 R2b R3
  go_wp2_with fail
  refine (metrolabref31_Sorted.calls 1000000 A0 c0 l0 s se _ (Kd.C_below HR.out H4.out) hc0 HRS.out).mono ?_
  rintro e w5 ⟨v5, rfl, ho5, hb5⟩
  obtain ⟨A5, c5, hv5, hc5, hC5⟩ := Kd.R_reads ho5
  subst hv5
  have H5 := Aside0.mk (H4.out.trans (hb5.mono H4.out.size))
  have R2d := Aside0.mk (Kd.C_below R2c.out hb5)
  have R3d := Aside0.mk (Kd.C_below R3c.out hb5)
  have R4d := Aside0.mk (Kd.C_below R4.out hb5)
  have R5 := Aside0.mk hC5
  clear ho5 hb5 hC5 H4 R2c R3c R4
  go_wp2_with fail
  refine (equal_rows R2d.out hc2 R3d.out hc3 HUL.out).mono ?_
  rintro e w6 ⟨rfl, hb6⟩
  have H6 := Aside0.mk (H5.out.trans (hb6.mono H5.out.size))
  have R4e := Aside0.mk (Kd.C_below R4d.out hb6)
  have R5e := Aside0.mk (Kd.C_below R5.out hb6)
  clear hb6 H5 R2d R3d R4d R5
  go_wp2_with fail
  refine (equal_rows R4e.out hc4 R5e.out hc5 HSL.out).mono ?_
  rintro e w7 ⟨rfl, hb7⟩
  have H7 := Aside0.mk (H6.out.trans (hb7.mono H6.out.size))
  clear hb7 H6 R4e R5e
  go_wp2_with fail
  refine (points_Thin.calls A0 c0 l0 g t te _ (Kd.C_below HR.out H7.out) hc0 HT.out).mono ?_
  rintro e w8 ⟨v8, rfl, ho8, hb8⟩
  obtain ⟨A8, c8, hv8, hc8, hC8⟩ := Kd.R_reads ho8
  subst hv8
  have H8 := Aside0.mk (H7.out.trans (hb8.mono H7.out.size))
  have R8 := Aside0.mk hC8
  clear ho8 hb8 hC8 H7
  go_wp2_with fail
  refine (metrolabref31_Thin.calls 4000 A0 c0 l0 g t te _ (Kd.C_below HR.out H8.out) hc0 HRT.out).mono ?_
  rintro e w9 ⟨v9, rfl, ho9, hb9⟩
  obtain ⟨A9, c9, hv9, hc9, hC9⟩ := Kd.R_reads ho9
  subst hv9
  have H9 := Aside0.mk (H8.out.trans (hb9.mono H8.out.size))
  have R8b := Aside0.mk (Kd.C_below R8.out hb9)
  have R9 := Aside0.mk hC9
  clear ho9 hb9 hC9 H8 R8
  go_wp2_with fail
  refine (equal_rows R8b.out hc8 R9.out hc9 HTL.out).mono ?_
  rintro e w10 ⟨rfl, hb10⟩
  have H10 := Aside0.mk (H9.out.trans (hb10.mono H9.out.size))
  clear hb10 H9 R8b R9
  go_wp2_with fail
  refine (points_Box.calls A0 c0 l0 b1 b2 b3 b4 b5 b6 be _ (Kd.C_below HR.out H10.out) hc0 HBX.out).mono ?_
  rintro e w11 ⟨rfl, hb11⟩
  have H11 := Aside0.mk (H10.out.trans (hb11.mono H10.out.size))
  clear hb11 H10
  have K1 := Aside0.mk (H11.out.alloc H11.out.size (.cells #[.int .i64 b1, .int .i64 b2, .int .i64 b3] 30))
  have K2 := Aside0.mk (K1.out.alloc (by rw [World.size_alloc]; have := H11.out.size; omega) (.cells #[.int .i64 b4, .int .i64 b5, .int .i64 b6] 30))
  have X1 := Aside0.mk (blk_alloc (heap_alloc_new w11 (.cells #[.int .i64 b1, .int .i64 b2, .int .i64 b3] 30)) (.cells #[.int .i64 b4, .int .i64 b5, .int .i64 b6] 30))
  have X2 := Aside0.mk (heap_alloc_new (w11.alloc (.cells #[.int .i64 b1, .int .i64 b2, .int .i64 b3] 30)) (.cells #[.int .i64 b4, .int .i64 b5, .int .i64 b6] 30))
  rw [World.size_alloc] at X2
  go_wp2_with fail
  refine (metrolabref31_Box.calls 1000 A0 c0 l0 b1 b2 b3 b4 b5 b6 be _ (Kd.C_below HR.out K2.out) hc0 HRB.out).mono ?_
  rintro e w12 ⟨rfl, hb12⟩
  have H12 := Aside0.mk (K2.out.trans (hb12.mono K2.out.size))
  have Y1 := Aside0.mk ((hb12.block _ (blk_lt X1.out)).trans X1.out)
  have Y2 := Aside0.mk ((hb12.block _ (blk_lt X2.out)).trans X2.out)
  have Z1 := Aside0.mk (blk_alloc (blk_alloc Y1.out (.cells #[.int .i64 b1, .int .i64 b2, .int .i64 b3] 30)) (.cells #[.int .i64 b4, .int .i64 b5, .int .i64 b6] 30))
  have Z2 := Aside0.mk (blk_alloc (blk_alloc Y2.out (.cells #[.int .i64 b1, .int .i64 b2, .int .i64 b3] 30)) (.cells #[.int .i64 b4, .int .i64 b5, .int .i64 b6] 30))
  have H13 := Aside0.mk (H12.out.alloc H12.out.size (.cells #[.int .i64 b1, .int .i64 b2, .int .i64 b3] 30))
  have H14 := Aside0.mk (H13.out.alloc (by rw [World.size_alloc]; have := H12.out.size; omega) (.cells #[.int .i64 b4, .int .i64 b5, .int .i64 b6] 30))
  clear hb12 K1 K2 X1 X2 Y1 Y2 H11 H12 H13
  have z10 := (blk_cell Z1.out 0).trans rfl
  have z11 := (blk_cell Z1.out 1).trans rfl
  have z12 := (blk_cell Z1.out 2).trans rfl
  have z20 := (blk_cell Z2.out 0).trans rfl
  have z21 := (blk_cell Z2.out 1).trans rfl
  have z22 := (blk_cell Z2.out 2).trans rfl
  go_wp2_with fail
  refine (metrolablaw31_awake.calls 100 true _ (Base.awake_k 100 (by omega))).mono ?_
  rintro e w15 ⟨rfl, hb15⟩
  go_wp2
  go_ret
  exact ⟨rfl, H14.out.trans (hb15.mono H14.out.size)⟩
theorem metrolablaw31_PointsFilters.calls (A0 : Option Addr) (c0 : Nat) (l0 : List S30) (g : Int) (r : Bool) (w : World) (hr0 : Kd.C k30 w A0 l0.length l0) (hc0 : l0.length ≤ c0) (h : metrolablaw31_PointsFilters.f l0 g = some r) :
    Calls Try.prog 9 #[.slice A0 l0.length c0, .int .i64 g] w fun e w' => e = .returned (.bool r) ∧ Below w.heap.size w w' := by
  unfold metrolablaw31_PointsFilters.f at h
  obtain rfl := Option.some.inj h
  by_cases h : l0.length ≤ 128
  · exact filters_near A0 c0 l0 g w hr0 hc0 h
  · exact filters_far A0 c0 l0 g w hr0 hc0 h
end Go.Proofs.Ytgfkodanekfekaa.X

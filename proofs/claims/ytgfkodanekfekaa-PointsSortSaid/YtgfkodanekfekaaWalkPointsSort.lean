/- The law PointsSort walked: what is sorted, or without doubles, is the same as before, and in the same box; what is lifted is flattened back; for all samples, axes and coordinates. -/
import Derived.Test.YtgfkodanekfekaaBaseSortLaw
import Derived.Test.YtgfkodanekfekaaWalkSame
import Derived.Test.YtgfkodanekfekaaX7
import Derived.Test.YtgfkodanekfekaaX5
import Derived.Deep.RegionHeld3
namespace Go.Proofs.Ytgfkodanekfekaa.X
open Go.RowKit Go.Proofs.YtgfkodanekfekaaW.PrintWords Go.Proofs.YtgfkodanekfekaaW.PrintLast Go.Proofs.YtgfkodanekfekaaW.PrintMore
set_option linter.unusedVariables false
set_option linter.unusedSimpArgs false
open Base (chk nubS srtL srtL_len srtL_chk nubS_chk nubS_len same_srt same_nub sameR srtL_before rbefore_f flatL flatL_len flatten_good flat_chk lift_chk flat_lift lift_good_f box_good box_srt punique_f chk_zero)
def metrolablaw31_PointsSort.f (l : List S30) (ax a : Int) : Option Bool := if 0 ≤ ax ∧ ax ≤ 255 then some true else none
theorem equal_points {A A' : Option Addr} {c c' : Nat} {l : List S46} {w : World} (hr : Kd.C k46 w A l.length l) (hc : l.length ≤ c) (hr' : Kd.C k46 w A' l.length l) (hc' : l.length ≤ c') (hl : l.length ≤ 64) :
    Calls Try.prog 24 #[.slice A l.length c, .slice A' l.length c'] w fun e w' => e = .returned (.bool true) ∧ Below w.heap.size w w' :=
  (api_Point_24.calls 100 A c l A' c' l true w hr hc hr' hc' (by rw [Base.eq46_f l l (by omega) 100 (by omega)]; simp)).mono fun e w' ⟨he, hb⟩ => by
    obtain ⟨n, rfl⟩ := hb
    exact ⟨he, pw_below_drewN (Below.refl _ _) n⟩
set_option maxHeartbeats 4000000 in
set_option maxRecDepth 100000 in
theorem psort_wrong (A0 : Option Addr) (c0 : Nat) (l0 : List S30) (ax a : Int) (w : World) (hr0 : Kd.C k30 w A0 l0.length l0) (hc0 : l0.length ≤ c0) (hg : ¬ (chk l0 = 0 ∧ -100000 ≤ a ∧ a ≤ 100000)) :
    Calls Try.prog 11 #[.slice A0 l0.length c0, .int .u8 ax, .int .i64 a] w fun e w' => e = .returned (.bool true) ∧ Below w.heap.size w w' := by
  have HR := Aside0.mk hr0
  have hrt : metrolablaw31_right.f 100 l0 = some (chk l0 == 0) := by unfold metrolablaw31_right.f; rw [Base.rcheck_f l0 100 (by omega)]; rfl
  have HRT := Aside0.mk hrt
  clear hr0 hrt
  by_cases hk : chk l0 = 0
  · rw [beq_iff_eq.mpr hk] at HRT
    by_cases h1 : a < -100000
    · have d1 : decide (a < -100000) = true := decide_eq_true h1
      clear hg hk h1
      go_enter Try.func11, Try.ntmps11
      go_wp2_with (first
        | (go_at_call 12; refine (metrolablaw31_right.calls 100 A0 c0 l0 true _ HR.out hc0 HRT.out).mono ?_; rintro e w1 ⟨rfl, hb1⟩)
        | (go_at_call 13; refine (metrolablaw31_awake.calls 100 true _ (Base.awake_k 100 (by omega))).mono ?_; rintro e w2 ⟨rfl, hb2⟩))
      go_ret
      exact ⟨rfl, hb1.trans (hb2.mono hb1.size)⟩
    · have d1 : decide (a < -100000) = false := decide_eq_false h1
      have d2 : decide (100000 < a) = true := decide_eq_true (by omega)
      clear hg hk h1
      go_enter Try.func11, Try.ntmps11
      go_wp2_with (first
        | (go_at_call 12; refine (metrolablaw31_right.calls 100 A0 c0 l0 true _ HR.out hc0 HRT.out).mono ?_; rintro e w1 ⟨rfl, hb1⟩)
        | (go_at_call 13; refine (metrolablaw31_awake.calls 100 true _ (Base.awake_k 100 (by omega))).mono ?_; rintro e w2 ⟨rfl, hb2⟩))
      go_ret
      exact ⟨rfl, hb1.trans (hb2.mono hb1.size)⟩
  · rw [beq_eq_false_iff_ne.mpr hk] at HRT
    clear hg hk
    go_enter Try.func11, Try.ntmps11
    go_wp2_with (first
      | (go_at_call 12; refine (metrolablaw31_right.calls 100 A0 c0 l0 false _ HR.out hc0 HRT.out).mono ?_; rintro e w1 ⟨rfl, hb1⟩)
      | (go_at_call 13; refine (metrolablaw31_awake.calls 100 true _ (Base.awake_k 100 (by omega))).mono ?_; rintro e w2 ⟨rfl, hb2⟩))
    go_ret
    exact ⟨rfl, hb1.trans (hb2.mono hb1.size)⟩
set_option maxHeartbeats 8000000 in
set_option maxRecDepth 100000 in
theorem psort_walk (A0 : Option Addr) (c0 : Nat) (l0 : List S30) (ax a : Int) (w : World) (hr0 : Kd.C k30 w A0 l0.length l0) (hc0 : l0.length ≤ c0) (hg : chk l0 = 0) (ha1 : -100000 ≤ a) (ha2 : a ≤ 100000) (hx : 0 ≤ ax ∧ ax ≤ 255) :
    Calls Try.prog 11 #[.slice A0 l0.length c0, .int .u8 ax, .int .i64 a] w fun e w' => e = .returned (.bool true) ∧ Below w.heap.size w w' := by
  have HR := Aside0.mk hr0
  have HRT := Aside0.mk (show metrolablaw31_right.f 100 l0 = some true from by unfold metrolablaw31_right.f; rw [Base.rcheck_f l0 100 (by omega), hg]; rfl)
  obtain ⟨k, hk⟩ : ∃ k, Int.tmod (wrap64 ax) 3 = k := ⟨_, rfl⟩
  have hk2 : 0 ≤ k ∧ k ≤ 2 := by
    rw [← hk, show wrap64 ax = ax from by unfold wrap64; omega, Int.tmod_eq_emod_of_nonneg hx.1]; omega
  have HK := Aside0.mk hk
  obtain ⟨s, hs⟩ : ∃ s, s = srtL l0 := ⟨_, rfl⟩
  obtain ⟨u, hu⟩ : ∃ u, u = nubS l0 := ⟨_, rfl⟩
  obtain ⟨m, hm⟩ : ∃ m, m = flatL k l0 := ⟨_, rfl⟩
  obtain ⟨n, hn⟩ : ∃ n, n = liftL k a m := ⟨_, rfl⟩
  have hmc : chkP m = 0 := by rw [hm]; exact flat_chk hg
  have hnc : chk n = 0 := by rw [hn]; exact lift_chk hmc ha1 ha2
  have HS := Aside0.mk (fun w hr => psorted_calls A0 c0 l0 w hr hc0)
  simp only [show sortedR l0 = (s, 0) from by unfold sortedR; rw [if_pos hg, hs]; rfl] at HS
  have HU := Aside0.mk (show points_Unique.f 4000 l0 = some (u, 0) from by rw [punique_f l0 4000 (Nat.le_refl _), if_pos hg, hu])
  have HSS := Aside0.mk (fun A c w hs1 hc hr => same_calls A A0 c c0 s l0 w hs1 hc hr hc0)
  simp only [show sameR s l0 = (true, 0) from by rw [hs]; exact same_srt hg] at HSS
  have HSU := Aside0.mk (fun A c w hs1 hc hr => same_calls A A0 c c0 u l0 w hs1 hc hr hc0)
  simp only [show sameR u l0 = (true, 0) from by rw [hu]; exact same_nub hg] at HSU
  have HBF := Aside0.mk (show ∀ j : Nat, j + 1 < s.length → metrolabref31_Before.f (rd_T30 s (j : Nat)).f0 (rd_T30 s (j : Nat)).f1 (rd_T30 s (j : Nat)).f2 (rd_T30 s ((j + 1 : Nat) : Int)).f0 (rd_T30 s ((j + 1 : Nat) : Int)).f1 (rd_T30 s ((j + 1 : Nat) : Int)).f2 = some true from fun j hj => rbefore_f _ _ (by rw [hs] at hj ⊢; exact srtL_before l0 j hj))
  have HF1 := Aside0.mk (show points_Flatten.f l0 k = some (m, 0) from by rw [flatten_good hg hk2.1 hk2.2, hm])
  have HF2 := Aside0.mk (show points_Flatten.f n k = some (m, 0) from by rw [flatten_good hnc hk2.1 hk2.2, hn, flat_lift])
  have HL := Aside0.mk (fun A c w hr hc => plift_calls A c m k a w hr hc)
  simp only [show liftR m k a = (n, 0) from by rw [lift_good_f hmc hk2.1 hk2.2 ha1 ha2, hn]] at HL
  have hsl : s.length = u.length := by rw [hs, hu]; exact srtL_len l0
  have hnl : n.length = l0.length := by rw [hn, liftL_len, hm, flatL_len]
  have h64 := (chk_zero hg).1
  have HS64 := Aside0.mk (show s.length ≤ 64 from by rw [hs, srtL_len]; have := nubS_len l0; omega)
  have HM64 := Aside0.mk (show m.length ≤ 64 from by rw [hm, flatL_len]; exact h64)
  have HBX := Aside0.mk (fun h => box_good hg h)
  have HBS := Aside0.mk (fun h => show points_Box.f s = points_Box.f l0 from by rw [hs]; exact box_srt hg h)
  have d1 : decide (a < -100000) = false := decide_eq_false (by omega)
  have d2 : decide (100000 < a) = false := decide_eq_false (by omega)
  have e1 : ((s.length : Int) != (u.length : Int)) = false := bne_eq_false_iff_eq.mpr (by omega)
  have e2 : (s.length != u.length) = false := bne_eq_false_iff_eq.mpr hsl
  have e3 : ((n.length : Int) != (l0.length : Int)) = false := bne_eq_false_iff_eq.mpr (by omega)
  have e4 : (n.length != l0.length) = false := bne_eq_false_iff_eq.mpr hnl
  clear hr0 hg ha1 ha2 hx hk2 hk hs hu hm hn hmc hnc hsl hnl h64
  go_enter Try.func11, Try.ntmps11
  go_wp2_with fail
  refine (metrolablaw31_right.calls 100 A0 c0 l0 true _ HR.out hc0 HRT.out).mono ?_
  rintro e w1 ⟨rfl, hb1⟩
  have H1 := Aside0.mk hb1
  clear hb1 HRT
  go_wp2_with fail
  rw [HK.out]
  refine (HS.out _ (Kd.C_below HR.out H1.out)).mono ?_
  rintro e w2 ⟨A2, c2, rfl, hc2, hC2, hb2⟩
  have H2 := Aside0.mk (H1.out.trans (hb2.mono H1.out.size))
  have RS := Aside0.mk hC2
  clear hb2 hC2 H1
  go_wp2_with fail
  refine (points_Unique.calls 4000 A0 c0 l0 u 0 _ (Kd.C_below HR.out H2.out) hc0 HU.out).mono ?_
  rintro e w3 ⟨v3, rfl, ho3, hb3⟩
  obtain ⟨A3, c3, hv3, hc3, hC3⟩ := Kd.R_reads ho3
  subst hv3
  have H3 := Aside0.mk (H2.out.trans (hb3.mono H2.out.size))
  have RS3 := Aside0.mk (Kd.C_below RS.out hb3)
  have RU := Aside0.mk hC3
  clear ho3 hb3 hC3 H2 RS
  go_wp2_with fail
  refine (HSS.out _ _ _ RS3.out hc2 (Kd.C_below HR.out H3.out)).mono ?_
  rintro e w4 ⟨rfl, hb4⟩
  have H4 := Aside0.mk (H3.out.trans (hb4.mono H3.out.size))
  have RS4 := Aside0.mk (Kd.C_below RS3.out hb4)
  have RU4 := Aside0.mk (Kd.C_below RU.out hb4)
  clear hb4 H3 RS3 RU
  go_wp2_with fail
  refine (HSU.out _ _ _ RU4.out hc3 (Kd.C_below HR.out H4.out)).mono ?_
  rintro e w5 ⟨rfl, hb5⟩
  have H5 := Aside0.mk (H4.out.trans (hb5.mono H4.out.size))
  have RS5 := Aside0.mk (Kd.C_below RS4.out hb5)
  clear hb5 H4 RS4 RU4
  go_wp2
  go_loopw [16] (fun v16 wr => ∃ x : Nat, 1 ≤ x ∧ x ≤ s.length + 1 ∧ v16 = .int .i64 x ∧ Aside0 (Below w5.heap.size w5 wr)) (fun v16 _ => 70 - (intOf v16).toNat)
  case atStart => exact ⟨1, Nat.le_refl _, by omega, rfl, ⟨Below.refl _ _⟩⟩
  case round =>
    obtain ⟨x, hx1, hx2, rfl, HBr⟩ := hrel
    obtain ⟨j, hjx⟩ : ∃ j, j + 1 = x := ⟨x - 1, by omega⟩
    have hsm := HS64.out
    by_cases hlt : x < s.length
    · have hd : decide ((x : Int) < (s.length : Int)) = true := decide_eq_true (by omega)
      have hd2 : decide (x < s.length) = true := decide_eq_true hlt
      obtain ⟨ad, hA, u1, u2, u3⟩ := at_T30 (Kd.C_below RS5.out HBr.out) j (by omega) (by omega)
      subst hA
      obtain ⟨ae, hE, u4, u5, u6⟩ := at_T30 (Kd.C_below RS5.out HBr.out) (x : Int) (by omega) (by omega)
      obtain rfl := Option.some.inj hE
      simp only [Int.toNat_natCast] at u1 u2 u3 u4 u5 u6
      have hbf := HBF.out j (by omega)
      rw [show ((j + 1 : Nat) : Int) = (x : Int) from by rw [hjx]] at hbf
      obtain ⟨p, hp⟩ : ∃ p, p = rd_T30 s (j : Nat) := ⟨_, rfl⟩
      obtain ⟨q, hq⟩ : ∃ q, q = rd_T30 s (x : Int) := ⟨_, rfl⟩
      rw [← hp] at u1 u2 u3 hbf
      rw [← hq] at u4 u5 u6 hbf
      have HBQ := Aside0.mk hbf
      clear hp hq hE hbf
      go_upto_region 13 with fail
      go_cut [100] (fun v100 wc => v100 = .bool false ∧ Aside0 (Below w5.heap.size w5 wc))
      case first =>
        have hjl : (j : Int) ≤ 64 := by omega
        have hw : IntKind.i64.wrap ((x : Int) - 1) = (j : Int) := by rw [i64_w]; unfold wrap64; omega
        have k1 : ((j : Int) < (s.length : Int)) = True := eq_true (by omega)
        have k2 : ((x : Int) < (s.length : Int)) = True := eq_true (by omega)
        have k3 : (j < s.length) = True := eq_true (by omega)
        have k4 : (x < s.length) = True := eq_true hlt
        go_region_held3 (fun W => W.cell? (ad.add (j * 3)) = some (.int .i64 p.f0) ∧ W.cell? ⟨(ad.add (j * 3)).block, (ad.add (j * 3)).off + 1, none⟩ = some (.int .i64 p.f1) ∧ W.cell? ⟨(ad.add (j * 3)).block, (ad.add (j * 3)).off + 2, none⟩ = some (.int .i64 p.f2) ∧ W.cell? (ad.add (x * 3)) = some (.int .i64 q.f0) ∧ W.cell? ⟨(ad.add (x * 3)).block, (ad.add (x * 3)).off + 1, none⟩ = some (.int .i64 q.f1) ∧ W.cell? ⟨(ad.add (x * 3)).block, (ad.add (x * 3)).off + 2, none⟩ = some (.int .i64 q.f2))
          (first | exact ⟨u1, u2, u3, u4, u5, u6⟩ | exact ⟨(hb4.cell (World.block_lt_of_cell? wr _ u1)).trans u1, (hb4.cell (World.block_lt_of_cell? wr _ u2)).trans u2, (hb4.cell (World.block_lt_of_cell? wr _ u3)).trans u3, (hb4.cell (World.block_lt_of_cell? wr _ u4)).trans u4, (hb4.cell (World.block_lt_of_cell? wr _ u5)).trans u5, (hb4.cell (World.block_lt_of_cell? wr _ u6)).trans u6⟩ | fail)
          (first | (go_at_call 38; refine (metrolabref31_Before.calls p.f0 p.f1 p.f2 q.f0 q.f1 q.f2 true _ HBQ.out).mono ?_; rintro e w4 ⟨rfl, hb4⟩))
        all_goals
          go_wp2
          go_meet
          case rel => exact ⟨rfl, ⟨(below_drew1 HBr.out).trans (hb4.mono HBr.out.size)⟩⟩
      case rest =>
        obtain ⟨rfl, HBc⟩ := hcut
        clear u1 u2 u3 u4 u5 u6 hd hd2
        go_wp2
        go_roundw
        case rel => exact ⟨x + 1, by omega, by omega, by go_num, HBc⟩
        case measure => simp [intOf]; omega
    · have hd : decide ((x : Int) < (s.length : Int)) = false := decide_eq_false (by omega)
      have hd2 : decide (x < s.length) = false := decide_eq_false hlt
      have H6 := Aside0.mk (H5.out.trans (HBr.out.mono H5.out.size))
      have RS6 := Aside0.mk (Kd.C_below RS5.out HBr.out)
      clear HBF
      go_wp2_with fail
      refine (points_Flatten.calls A0 c0 l0 k m 0 _ (Kd.C_below HR.out H6.out) hc0 HF1.out).mono ?_
      rintro e w7 ⟨v7, rfl, ho7, hb7⟩
      obtain ⟨A7, c7, hv7, hc7, hC7⟩ := Kd.R_reads ho7
      subst hv7
      have H7 := Aside0.mk (H6.out.trans (hb7.mono H6.out.size))
      have RS7 := Aside0.mk (Kd.C_below RS6.out hb7)
      have RM := Aside0.mk hC7
      clear ho7 hb7 hC7 H6 RS6 hd hd2
      go_wp2_with fail
      refine (HL.out _ _ _ RM.out hc7).mono ?_
      rintro e w8 ⟨A8, c8, rfl, hc8, hC8, hb8⟩
      have H8 := Aside0.mk (H7.out.trans (hb8.mono H7.out.size))
      have RS8 := Aside0.mk (Kd.C_below RS7.out hb8)
      have RM8 := Aside0.mk (Kd.C_below RM.out hb8)
      have RN := Aside0.mk hC8
      clear hb8 hC8 H7 RS7 RM
      go_wp2_with fail
      refine (points_Flatten.calls A8 c8 n k m 0 _ RN.out hc8 HF2.out).mono ?_
      rintro e w9 ⟨v9, rfl, ho9, hb9⟩
      obtain ⟨A9, c9, hv9, hc9, hC9⟩ := Kd.R_reads ho9
      subst hv9
      have H9 := Aside0.mk (H8.out.trans (hb9.mono H8.out.size))
      have RS9 := Aside0.mk (Kd.C_below RS8.out hb9)
      have RM9 := Aside0.mk (Kd.C_below RM8.out hb9)
      have RO := Aside0.mk hC9
      clear ho9 hb9 hC9 H8 RS8 RM8 RN
      go_wp2_with fail
      refine (equal_points RM9.out hc7 RO.out hc9 HM64.out).mono ?_
      rintro e w10 ⟨rfl, hb10⟩
      have H10 := Aside0.mk (H9.out.trans (hb10.mono H9.out.size))
      have RS10 := Aside0.mk (Kd.C_below RS9.out hb10)
      clear hb10 H9 RS9 RM9 RO
      by_cases hz : l0.length = 0
      · have z1 : ((l0.length : Int) == 0) = true := beq_iff_eq.mpr (by omega)
        have z2 : (l0.length == 0) = true := beq_iff_eq.mpr hz
        clear hz
        go_wp2_with fail
        refine (metrolablaw31_awake.calls 100 true _ (Base.awake_k 100 (by omega))).mono ?_
        rintro e w11 ⟨rfl, hb11⟩
        go_wp2
        go_ret
        exact ⟨rfl, H10.out.trans (hb11.mono H10.out.size)⟩
      · have z1 : ((l0.length : Int) == 0) = false := beq_eq_false_iff_ne.mpr (by omega)
        have z2 : (l0.length == 0) = false := beq_eq_false_iff_ne.mpr hz
        have hbx := HBX.out (by omega)
        have hbs := (HBS.out (by omega)).trans hbx
        generalize (lowF (t3 (rd_T30 l0 0)) l0).1 = b1 at hbx hbs
        generalize (lowF (t3 (rd_T30 l0 0)) l0).2.1 = b2 at hbx hbs
        generalize (lowF (t3 (rd_T30 l0 0)) l0).2.2 = b3 at hbx hbs
        generalize (highF (t3 (rd_T30 l0 0)) l0).1 = b4 at hbx hbs
        generalize (highF (t3 (rd_T30 l0 0)) l0).2.1 = b5 at hbx hbs
        generalize (highF (t3 (rd_T30 l0 0)) l0).2.2 = b6 at hbx hbs
        have HX1 := Aside0.mk hbx
        have HX2 := Aside0.mk hbs
        clear hz hbx hbs HBX HBS
        go_wp2_with fail
        refine (points_Box.calls A0 c0 l0 b1 b2 b3 b4 b5 b6 0 _ (Kd.C_below HR.out H10.out) hc0 HX1.out).mono ?_
        rintro e w11 ⟨rfl, hb11⟩
        have H11 := Aside0.mk (H10.out.trans (hb11.mono H10.out.size))
        have RS11 := Aside0.mk (Kd.C_below RS10.out hb11)
        clear hb11 H10 RS10
        have K1 := Aside0.mk (H11.out.alloc H11.out.size (.cells #[.int .i64 b1, .int .i64 b2, .int .i64 b3] 30))
        have K2 := Aside0.mk (K1.out.alloc (by rw [World.size_alloc]; have := H11.out.size; omega) (.cells #[.int .i64 b4, .int .i64 b5, .int .i64 b6] 30))
        have X1 := Aside0.mk (blk_alloc (heap_alloc_new w11 (.cells #[.int .i64 b1, .int .i64 b2, .int .i64 b3] 30)) (.cells #[.int .i64 b4, .int .i64 b5, .int .i64 b6] 30))
        have X2 := Aside0.mk (heap_alloc_new (w11.alloc (.cells #[.int .i64 b1, .int .i64 b2, .int .i64 b3] 30)) (.cells #[.int .i64 b4, .int .i64 b5, .int .i64 b6] 30))
        rw [World.size_alloc] at X2
        have RS12 := Aside0.mk (Kd.C_alloc (Kd.C_alloc RS11.out (.cells #[.int .i64 b1, .int .i64 b2, .int .i64 b3] 30)) (.cells #[.int .i64 b4, .int .i64 b5, .int .i64 b6] 30))
        go_wp2_with fail
        refine (points_Box.calls _ c2 s b1 b2 b3 b4 b5 b6 0 _ RS12.out hc2 HX2.out).mono ?_
        rintro e w12 ⟨rfl, hb12⟩
        have H12 := Aside0.mk (K2.out.trans (hb12.mono K2.out.size))
        have Y1 := Aside0.mk ((hb12.block _ (blk_lt X1.out)).trans X1.out)
        have Y2 := Aside0.mk ((hb12.block _ (blk_lt X2.out)).trans X2.out)
        have Z1 := Aside0.mk (blk_alloc (blk_alloc Y1.out (.cells #[.int .i64 b1, .int .i64 b2, .int .i64 b3] 30)) (.cells #[.int .i64 b4, .int .i64 b5, .int .i64 b6] 30))
        have Z2 := Aside0.mk (blk_alloc (blk_alloc Y2.out (.cells #[.int .i64 b1, .int .i64 b2, .int .i64 b3] 30)) (.cells #[.int .i64 b4, .int .i64 b5, .int .i64 b6] 30))
        have H13 := Aside0.mk (H12.out.alloc H12.out.size (.cells #[.int .i64 b1, .int .i64 b2, .int .i64 b3] 30))
        have H14 := Aside0.mk (H13.out.alloc (by rw [World.size_alloc]; have := H12.out.size; omega) (.cells #[.int .i64 b4, .int .i64 b5, .int .i64 b6] 30))
        clear hb12 K1 K2 X1 X2 Y1 Y2 H11 H12 H13 RS11 RS12
        have z10 := (blk_cell Z1.out 0).trans rfl
        have z11 := (blk_cell Z1.out 1).trans rfl
        have z12 := (blk_cell Z1.out 2).trans rfl
        have z20 := (blk_cell Z2.out 0).trans rfl
        have z21 := (blk_cell Z2.out 1).trans rfl
        have z22 := (blk_cell Z2.out 2).trans rfl
        go_wp2_with fail
        refine (metrolablaw31_awake.calls 100 true _ (Base.awake_k 100 (by omega))).mono ?_
        rintro e w15 ⟨rfl, hb15⟩
        go_wp2
        go_ret
        exact ⟨rfl, H14.out.trans (hb15.mono H14.out.size)⟩
theorem metrolablaw31_PointsSort.calls (A0 : Option Addr) (c0 : Nat) (l0 : List S30) (ax a : Int) (r : Bool) (w : World) (hr0 : Kd.C k30 w A0 l0.length l0) (hc0 : l0.length ≤ c0) (h : metrolablaw31_PointsSort.f l0 ax a = some r) :
    Calls Try.prog 11 #[.slice A0 l0.length c0, .int .u8 ax, .int .i64 a] w fun e w' => e = .returned (.bool r) ∧ Below w.heap.size w w' := by
  unfold metrolablaw31_PointsSort.f at h
  by_cases ht : 0 ≤ ax ∧ ax ≤ 255
  case neg => rw [if_neg ht] at h; cases h
  rw [if_pos ht] at h
  obtain rfl := Option.some.inj h
  by_cases hg : chk l0 = 0 ∧ -100000 ≤ a ∧ a ≤ 100000
  · exact psort_walk A0 c0 l0 ax a w hr0 hc0 hg.1 hg.2.1 hg.2.2 ht
  · exact psort_wrong A0 c0 l0 ax a w hr0 hc0 hg
end Go.Proofs.Ytgfkodanekfekaa.X

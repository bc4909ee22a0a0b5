/- The law PointsKeep walked: shifts, turns and mirrors keep all squared distances; for all samples, vectors and turns. -/
import Derived.Test.YtgfkodanekfekaaWalkPointsUndo
import Derived.Deep.RegionHeld3
namespace Go.Proofs.Ytgfkodanekfekaa.X
open Go.RowKit Go.Proofs.YtgfkodanekfekaaW.PrintWords Go.Proofs.YtgfkodanekfekaaW.PrintLast Go.Proofs.YtgfkodanekfekaaW.PrintMore
attribute [local go_sem] max2_int min2_int max_two min_two max_three min_three max_four min_four
set_option linter.unusedVariables false
set_option linter.unusedSimpArgs false
namespace Keep
/-- the rows of samples of the same distances -/
def Rows (w : World) (g n : Nat) (l : List S30) : Prop := ∀ j, j < n → ∃ A c m, w.cell? ⟨g, j, none⟩ = some (.slice A m.length c) ∧ m.length ≤ c ∧ Kd.C k30 w A m.length m ∧ Base.KeepsAll m l
theorem rows_below {w w1 : World} {g n : Nat} {l : List S30} (h : Rows w g n l) (hb : Below w.heap.size w w1) : Rows w1 g n l := fun j hj => by
  obtain ⟨A, c, m, h1, h2, h3, h4⟩ := h j hj
  exact ⟨A, c, m, (hb.cell (World.block_lt_of_cell? _ _ h1)).trans h1, h2, Kd.C_below h3 hb, h4⟩
end Keep
def metrolablaw31_PointsKeep.f (l : List S30) (a b c t : Int) : Option Bool := if 0 ≤ t ∧ t ≤ 255 then some true else none
set_option maxHeartbeats 4000000 in
set_option maxRecDepth 100000 in
theorem keep_wrong (A0 : Option Addr) (c0 : Nat) (l0 : List S30) (a b c t : Int) (w : World) (hr0 : Kd.C k30 w A0 l0.length l0) (hc0 : l0.length ≤ c0) (hg : ¬ (Base.chk l0 = 0 ∧ l0.length ≤ 12)) :
    Calls Try.prog 7 #[.slice A0 l0.length c0, .agg #[.int .i64 a, .int .i64 b, .int .i64 c], .int .u8 t] w fun e w' => e = .returned (.bool true) ∧ Below w.heap.size w w' := by
  have HR := Aside0.mk hr0
  have hrt : metrolablaw31_right.f 100 l0 = some (Base.chk l0 == 0) := by unfold metrolablaw31_right.f; rw [Base.rcheck_f l0 100 (by omega)]; rfl
  have HRT := Aside0.mk hrt
  have HB0 := Aside0.mk ((Below.refl w.heap.size w).alloc (Nat.le_refl _) (.cells #[.int .i64 a, .int .i64 b, .int .i64 c] 30))
  clear hr0 hrt
  by_cases hk : Base.chk l0 = 0
  · have d0 : decide (12 < (l0.length : Int)) = true := decide_eq_true (by omega)
    rw [beq_iff_eq.mpr hk] at HRT
    clear hg hk
    go_enter Try.func7, Try.ntmps7
    go_wp2_with (first
      | (go_at_call 12; refine (metrolablaw31_right.calls 100 A0 c0 l0 true _ (Kd.C_below HR.out HB0.out) hc0 HRT.out).mono ?_; rintro e w1 ⟨rfl, hb1⟩)
      | (go_at_call 13; refine (metrolablaw31_awake.calls 100 true _ (Base.awake_k 100 (by omega))).mono ?_; rintro e w2 ⟨rfl, hb2⟩))
    go_ret
    have HB1 := HB0.out.trans (hb1.mono HB0.out.size)
    exact ⟨rfl, HB1.trans (hb2.mono HB1.size)⟩
  · rw [beq_eq_false_iff_ne.mpr hk] at HRT
    clear hg hk
    go_enter Try.func7, Try.ntmps7
    go_wp2_with (first
      | (go_at_call 12; refine (metrolablaw31_right.calls 100 A0 c0 l0 false _ (Kd.C_below HR.out HB0.out) hc0 HRT.out).mono ?_; rintro e w1 ⟨rfl, hb1⟩)
      | (go_at_call 13; refine (metrolablaw31_awake.calls 100 true _ (Base.awake_k 100 (by omega))).mono ?_; rintro e w2 ⟨rfl, hb2⟩))
    go_ret
    have HB1 := HB0.out.trans (hb1.mono HB0.out.size)
    exact ⟨rfl, HB1.trans (hb2.mono HB1.size)⟩
set_option maxHeartbeats 8000000 in
set_option maxRecDepth 100000 in
theorem keep_walk (A0 : Option Addr) (c0 : Nat) (l0 : List S30) (a b c_ t : Int) (w : World) (hr0 : Kd.C k30 w A0 l0.length l0) (hc0 : l0.length ≤ c0) (hg : Base.chk l0 = 0) (h12 : l0.length ≤ 12) (ht : 0 ≤ t ∧ t ≤ 255) :
    Calls Try.prog 7 #[.slice A0 l0.length c0, .agg #[.int .i64 a, .int .i64 b, .int .i64 c_], .int .u8 t] w fun e w' => e = .returned (.bool true) ∧ Below w.heap.size w w' := by
  have G : GoodL l0 := Base.chk_iff.mp hg
  have HR := Aside0.mk hr0
  have HRT := Aside0.mk (show metrolablaw31_right.f 100 l0 = some true from by unfold metrolablaw31_right.f; rw [Base.rcheck_f l0 100 (by omega), hg]; rfl)
  have hw := (Below.refl w.heap.size w).alloc (Nat.le_refl _) (.cells #[.int .i64 a, .int .i64 b, .int .i64 c_] 30)
  have HB0 := Aside0.mk hw
  have HX := Aside0.mk (heap_alloc_new w (.cells #[.int .i64 a, .int .i64 b, .int .i64 c_] 30))
  obtain ⟨ax, hax⟩ : ∃ ax, Int.tmod (wrap64 t) 3 = ax := ⟨_, rfl⟩
  have hax2 : 0 ≤ ax ∧ ax ≤ 2 := by
    rw [← hax, show wrap64 t = t from by unfold wrap64; omega, Int.tmod_eq_emod_of_nonneg ht.1]; omega
  obtain ⟨n, hn⟩ : ∃ n, wrap64 (Int.tdiv (wrap64 t) 3) = n := ⟨_, rfl⟩
  obtain ⟨m1, hm1⟩ : ∃ m, m = mapT (turnN ax (n % 4).toNat) l0 := ⟨_, rfl⟩
  obtain ⟨m2, hm2⟩ : ∃ m, m = mapT (mirrorV ax) l0 := ⟨_, rfl⟩
  have K1 := Aside0.mk (show Base.KeepsAll m1 l0 from by rw [hm1]; exact Base.good_iso (Base.iso_turnN _ _) G.2)
  have K2 := Aside0.mk (show Base.KeepsAll m2 l0 from by rw [hm2]; exact Base.good_iso (Base.iso_mirror _) G.2)
  have T1 := Aside0.mk (show points_Turn.f l0 ax n = some (m1, 0) from by rw [undo_turn G hax2.1 hax2.2, hm1])
  have M1 := Aside0.mk (show points_Mirror.f l0 ax = some (m2, 0) from by rw [undo_mirror G hax2.1 hax2.2, hm2])
  have HL := Aside0.mk h12
  obtain ⟨⟨m3, e3⟩, hr⟩ : ∃ r, Base.shiftR l0 a b c_ = r := ⟨_, rfl⟩
  have HSF := Aside0.mk (show points_Shift.f l0 a b c_ = some (m3, e3) from by rw [Base.shift_f, hr])
  have K3 := Aside0.mk (show e3 = 0 → Base.KeepsAll m3 l0 from by
    intro h
    subst h
    unfold Base.shiftR at hr
    rw [if_pos hg] at hr
    by_cases h1 : okSpot ⟨a, b, c_⟩ = true
    · rw [if_pos h1] at hr
      by_cases h2 : l0.all (Base.movedOk a b c_) = true
      · rw [if_pos h2] at hr; obtain ⟨rfl, _⟩ := Prod.mk.inj hr; exact Base.good_shift h1 G.2 h2
      · rw [if_neg h2] at hr; exact absurd (Prod.mk.inj hr).2 (by decide)
    · rw [if_neg h1] at hr; exact absurd (Prod.mk.inj hr).2 (by decide))
  have HOK := Aside0.mk G.2
  have HAX := Aside0.mk hax
  have HN := Aside0.mk hn
  have d12 : decide (12 < (l0.length : Int)) = false := decide_eq_false (by omega)
  clear hr0 hg hw hm1 hm2 G ht hax2 hax hn hr h12
  go_enter Try.func7, Try.ntmps7
  go_wp2_with fail
  refine (metrolablaw31_right.calls 100 A0 c0 l0 true _ (Kd.C_below HR.out HB0.out) hc0 HRT.out).mono ?_
  rintro e w1 ⟨rfl, hb1⟩
  have H0 := Aside0.mk (HB0.out.trans (hb1.mono HB0.out.size))
  have hxc := (hb1.block _ (by rw [World.size_alloc]; omega)).trans HX.out
  have HXC := Aside0.mk hxc
  clear hb1 HB0 HX hxc
  go_wp2_with fail
  rw [HAX.out, HN.out]
  refine (undo_turn_row (Kd.C_below HR.out H0.out) hc0 T1.out).mono ?_
  rintro e w2 ⟨A1, c1, rfl, hc1, hC1, hb2⟩
  have H1 := Aside0.mk (H0.out.trans (hb2.mono H0.out.size))
  have HXC2 := Aside0.mk ((hb2.block _ (blk_lt HXC.out)).trans HXC.out)
  have HC1 := Aside0.mk hC1
  clear HXC H0 hb2 hC1
  go_wp2_with fail
  refine (undo_mirror_row (Kd.C_below HR.out H1.out) hc0 M1.out).mono ?_
  rintro e w4 ⟨A2, c2, rfl, hc2, hC2, hb4⟩
  have H2 := Aside0.mk (H1.out.trans (hb4.mono H1.out.size))
  have hxc := (hb4.block _ (blk_lt HXC2.out)).trans HXC2.out
  have HC12 := Aside0.mk (Kd.C_below HC1.out hb4)
  have HC2 := Aside0.mk hC2
  have HXC3 := Aside0.mk hxc
  have hxa := blk_alloc hxc (.cells #[.slice A1 m1.length c1, .slice A2 m2.length c2] 22)
  have z0 : (w4.alloc (.cells #[.slice A1 m1.length c1, .slice A2 m2.length c2] 22)).cell? ⟨w.heap.size, 0, none⟩ = some (.int .i64 a) := (blk_cell hxa 0).trans rfl
  have z1 : (w4.alloc (.cells #[.slice A1 m1.length c1, .slice A2 m2.length c2] 22)).cell? ⟨w.heap.size, 1, none⟩ = some (.int .i64 b) := (blk_cell hxa 1).trans rfl
  have z2 : (w4.alloc (.cells #[.slice A1 m1.length c1, .slice A2 m2.length c2] 22)).cell? ⟨w.heap.size, 2, none⟩ = some (.int .i64 c_) := (blk_cell hxa 2).trans rfl
  have HNW := Aside0.mk (heap_alloc_new w4 (.cells #[.slice A1 m1.length c1, .slice A2 m2.length c2] 22))
  have H3 := Aside0.mk (H2.out.alloc H2.out.size (.cells #[.slice A1 m1.length c1, .slice A2 m2.length c2] 22))
  clear HXC2 HC1 H1 hb4 hC2 hxc hxa
  go_wp2_with fail
  refine (points_Shift.calls A0 c0 l0 a b c_ m3 e3 _ (Kd.C_below HR.out H3.out) hc0 HSF.out).mono ?_
  rintro e w5 ⟨v3, rfl, ho3, hb5⟩
  obtain ⟨A3, c3, hv3, hc3, hC3⟩ := Kd.R_reads ho3
  subst hv3
  have HO3 := Aside0.mk ho3
  have H4 := Aside0.mk (H3.out.trans (hb5.mono H3.out.size))
  have HG5 := Aside0.mk ((hb5.block _ (by rw [World.size_alloc]; omega)).trans HNW.out)
  have hal := (Below.refl w4.heap.size w4).alloc (Nat.le_refl _) (.cells #[.slice A1 m1.length c1, .slice A2 m2.length c2] 22)
  have HC15 := Aside0.mk (Kd.C_below (Kd.C_below HC12.out hal) hb5)
  have HC25 := Aside0.mk (Kd.C_below (Kd.C_below HC2.out hal) hb5)
  have HC3 := Aside0.mk hC3
  have HB45 := Aside0.mk (hal.trans (hb5.mono hal.size))
  clear hal H3 hb5 hC3 ho3 z0 z1 z2 HNW HXC3
  go_upto_if 62 with fail
  have HXR := Aside0.mk (show Keep.Rows w5 w4.heap.size 2 l0 from fun j hj => by
    match j, hj with
    | 0, _ => exact ⟨A1, c1, m1, (blk_cell HG5.out 0).trans rfl, hc1, HC15.out, K1.out⟩
    | 1, _ => exact ⟨A2, c2, m2, (blk_cell HG5.out 1).trans rfl, hc2, HC25.out, K2.out⟩
    | j + 2, h => omega)
  go_cut [13] (fun v13 wc => ∃ (g n c : Nat), v13 = .slice (some ⟨g, 0, none⟩) n c ∧ n ≤ 3 ∧ Aside0 (Keep.Rows wc g n l0) ∧ Aside0 (Below w4.heap.size w4 wc))
  case first =>
    by_cases h3 : e3 = 0
    · have d0 : (e3 == 0) = true := beq_iff_eq.mpr h3
      have HK3 := Aside0.mk (K3.out h3)
      have HOW := Aside0.mk (show (w5.alloc (.cells #[.slice A3 m3.length c3] 22)).ownsRow w4.heap.size 22 1 (.slice (some ⟨w4.heap.size, 0, none⟩) 2 2) 2 [.slice A1 m1.length c1, .slice A2 m2.length c2] from
        ⟨rfl, .inr ⟨w4.heap.size, 2, _, rfl, Nat.le_refl _, blk_alloc HG5.out _, Nat.le_refl _, by decide, rfl, rfl⟩⟩)
      have hs5 : w4.heap.size ≤ w5.heap.size := by have := blk_lt HG5.out; omega
      obtain ⟨i22, hi22, hz22, hs22, hb22⟩ := info_parts info22
      rw [d0]
      clear h3 d0
      go_wp2_with (at_builtin; (refine wpList_append_own_at _ rfl _ _ 52 rfl w4.heap.size 22 i22 (.slice none 0 0) 1 24 Try.underlying52 hi22 hz22 hs22 hb22 rfl (by decide) _ 2 _ rfl HOW.out ⟨w5.heap.size, 0, none⟩ 1 1 [.slice A3 m3.length c3] rfl rfl (cell_one_new _ _ _) (by simp [Value.oneCell']) (by decide) (by decide) (by rw [World.size_alloc]; omega) ?_); intro v6 w6 how hgr _ hat)
      go_meet
      case rel =>
        have hr3 := Kd.R_over' (v := .slice (some ⟨w4.heap.size, 0, none⟩) 2 2) (Kd.R_alloc HO3.out (.cells #[.slice A3 m3.length c3] 22)) (fun k hk => by obtain rfl : w4.heap.size = k := Option.some.inj hk; exact ⟨_, blk_alloc HG5.out _⟩) (by decide) hgr
        have hB6 : Below w4.heap.size w4 w6 := pw_below_grown (HB45.out.alloc hs5 _) _ (by rw [World.size_alloc]; omega) hgr (fun k hk => by obtain rfl : w4.heap.size = k := Option.some.inj hk; exact Nat.le_refl _)
        obtain ⟨hl_, hrest⟩ := how
        rcases hrest with ⟨_, hbad⟩ | ⟨g, cap, cur, rfl, hgb, hgh, hcap, _, hcs, htk⟩
        · exact absurd hbad (by decide)
        refine ⟨g, 3, cap, rfl, by omega, ⟨fun j hj => ?_⟩, ⟨hB6⟩⟩
        · have hcell : ∀ v, ([.slice A1 m1.length c1, .slice A2 m2.length c2, .slice A3 m3.length c3] : List Value)[j]? = some v → w6.cell? ⟨g, j, none⟩ = some v := fun v hv => by
            refine (blk_cell hgh j).trans ?_
            rw [← hv]
            have := congrArg (fun l : List Value => l[j]?) htk
            simp only [List.getElem?_take] at this
            rw [if_pos (by omega)] at this
            simpa using this
          match j, hj with
          | 0, _ => exact ⟨A1, c1, m1, hcell _ rfl, hc1, Kd.C_below HC12.out hB6, K1.out⟩
          | 1, _ => exact ⟨A2, c2, m2, hcell _ rfl, hc2, Kd.C_below HC2.out hB6, K2.out⟩
          | 2, _ =>
            obtain ⟨_, _, hC⟩ := Kd.R_reads' hr3
            exact ⟨A3, c3, m3, hcell _ rfl, hc3, hC, HK3.out⟩
          | j + 3, h => omega
    · have d0 : (e3 == 0) = false := beq_eq_false_iff_ne.mpr h3
      rw [d0]
      clear d0 h3
      go_wp2
      go_meet
      case rel => exact ⟨_, _, _, rfl, by omega, HXR, HB45⟩
  case rest =>
    obtain ⟨g, n_, c, rfl, hn3, HRW, HBc⟩ := hcut
    have HBW := Aside0.mk (H2.out.trans (HBc.out.mono H2.out.size))
    have HLc := Aside0.mk (Kd.C_below HR.out HBW.out)
    have HOKL := Aside0.mk (show ∀ i : Nat, i < l0.length → okSpot (rd_T30 l0 i) = true from fun i hi => HOK.out _ (by rw [Base.rd30]; exact Base.mem_getD l0 z30 i hi))
    clear HBc HXR HB45 HC25 HC15 HG5 HO3 HC3 HC12 HC2 H4 H2 HR K1 K2 K3 T1 M1 HSF
    go_wp2
    go_loopw [73] (fun v73 wr => ∃ j : Nat, j ≤ n_ ∧ v73 = .int .i64 j ∧ Aside0 (Below wc.heap.size wc wr)) (fun v73 _ => n_ - (intOf v73).toNat)
    case atStart => exact ⟨0, Nat.zero_le _, rfl, ⟨Below.refl _ _⟩⟩
    case round =>
      obtain ⟨j, hj, rfl, HBr⟩ := hrel
      by_cases hlj : j < n_
      · obtain ⟨A, cm, m, hcell, hmc, hC, hK⟩ := Keep.rows_below HRW.out HBr.out j hlj
        have HK := Aside0.mk hK
        have HKM := Aside0.mk (show ∀ i : Nat, i < l0.length → okSpot (rd_T30 m i) = true from fun i hi => hK.ok _ (by rw [Base.rd30]; exact Base.mem_getD m z30 i (by rw [hK.len]; exact hi)))
        have HKD := Aside0.mk (show ∀ i k : Nat, i < l0.length → k < l0.length → Base.d2 (rd_T30 m i) (rd_T30 m k) = Base.d2 (rd_T30 l0 i) (rd_T30 l0 k) from fun i k hi hk => by rw [Base.rd30, Base.rd30, Base.rd30, Base.rd30]; exact hK.dist i k hi hk)
        rw [hK.len] at hcell
        have hC' : Kd.C k30 wr A l0.length m := by have := hC; rw [hK.len] at this; exact this
        have HC := Aside0.mk hC'
        have HLr := Aside0.mk (Kd.C_below HLc.out HBr.out)
        have hx : ((j : Int) < (n_ : Int)) = True := eq_true (by omega)
        have hx2 : (j < n_) = True := eq_true hlj
        clear hC hC' hK hmc HK
        go_wp2
        clear hx hx2 hcell
        go_loopw [84] (fun v84 wi => ∃ i : Nat, i ≤ l0.length ∧ v84 = .int .i64 i ∧ Aside0 (Below wr.heap.size wr wi)) (fun v84 _ => l0.length - (intOf v84).toNat)
        case atStart => exact ⟨0, Nat.zero_le _, rfl, ⟨Below.refl _ _⟩⟩
        case round =>
          obtain ⟨i, hi, rfl, HBi⟩ := hrel
          have hll : (l0.length : Int) ≤ 12 := by have := HL.out; omega
          by_cases hli : i < l0.length
          · go_wp2
            go_loopw [88] (fun v88 wi => ∃ k : Nat, k ≤ i ∧ v88 = .int .i64 k ∧ Aside0 (Below wr.heap.size wr wi)) (fun v88 _ => i - (intOf v88).toNat)
            case atStart => exact ⟨0, Nat.zero_le _, rfl, ⟨Below.refl _ _⟩⟩
            case round =>
              obtain ⟨k, hk, rfl, HBk⟩ := hrel
              by_cases hlk : k < i
              · have hx : ((i : Int) < (l0.length : Int)) = True := eq_true (by omega)
                have hy : ((k : Int) < (l0.length : Int)) = True := eq_true (by omega)
                have hx2 : (i < l0.length) = True := eq_true (by omega)
                have hy2 : (k < l0.length) = True := eq_true (by omega)
                obtain ⟨d, hd⟩ : ∃ d, d = Base.d2 (rd_T30 l0 i) (rd_T30 l0 k) := ⟨_, rfl⟩
                have HSQ1 := Aside0.mk (Base.square_f (HOKL.out i hli) (HOKL.out k (by omega)))
                have HSQ2 := Aside0.mk (Base.square_f (HKM.out i hli) (HKM.out k (by omega)))
                rw [HKD.out i k hli (by omega), ← hd] at HSQ2
                rw [← hd] at HSQ1
                clear hd
                go_upto_region 23 with fail
                go_cut [20, 21] (fun v20 v21 wd => v20 = .int .i64 d ∧ v21 = .int .i64 0 ∧ Aside0 (Below wr.heap.size wr wd))
                case first =>
                  obtain ⟨ad, hA, u1, u2, u3⟩ := at_T30 (Kd.C_below (Kd.C_below HLr.out HBi.out) HBk.out) i (by omega) (by omega)
                  subst hA
                  obtain ⟨ae, hE, u4, u5, u6⟩ := at_T30 (Kd.C_below (Kd.C_below HLr.out HBi.out) HBk.out) k (by omega) (by omega)
                  obtain rfl := Option.some.inj hE
                  simp only [Int.toNat_natCast] at u1 u2 u3 u4 u5 u6
                  obtain ⟨p, hp⟩ : ∃ p, p = rd_T30 l0 i := ⟨_, rfl⟩
                  obtain ⟨q, hq⟩ : ∃ q, q = rd_T30 l0 k := ⟨_, rfl⟩
                  rw [← hp] at u1 u2 u3 HSQ1
                  rw [← hq] at u4 u5 u6 HSQ1
                  clear hp hq hE
                  go_region_held3 (fun W => W.cell? (ad.add (i * 3)) = some (.int .i64 p.f0) ∧ W.cell? ⟨(ad.add (i * 3)).block, (ad.add (i * 3)).off + 1, none⟩ = some (.int .i64 p.f1) ∧ W.cell? ⟨(ad.add (i * 3)).block, (ad.add (i * 3)).off + 2, none⟩ = some (.int .i64 p.f2) ∧ W.cell? (ad.add (k * 3)) = some (.int .i64 q.f0) ∧ W.cell? ⟨(ad.add (k * 3)).block, (ad.add (k * 3)).off + 1, none⟩ = some (.int .i64 q.f1) ∧ W.cell? ⟨(ad.add (k * 3)).block, (ad.add (k * 3)).off + 2, none⟩ = some (.int .i64 q.f2))
                    (first | exact ⟨u1, u2, u3, u4, u5, u6⟩ | exact ⟨(hb4.cell (World.block_lt_of_cell? wr _ u1)).trans u1, (hb4.cell (World.block_lt_of_cell? wr _ u2)).trans u2, (hb4.cell (World.block_lt_of_cell? wr _ u3)).trans u3, (hb4.cell (World.block_lt_of_cell? wr _ u4)).trans u4, (hb4.cell (World.block_lt_of_cell? wr _ u5)).trans u5, (hb4.cell (World.block_lt_of_cell? wr _ u6)).trans u6⟩ | fail)
                    (first | (go_at_call 15; refine (vector_SquareSpace.calls p.f0 p.f1 p.f2 q.f0 q.f1 q.f2 d 0 _ HSQ1.out).mono ?_; rintro e w4 ⟨rfl, hb4⟩))
                  all_goals
                    go_wp2
                    go_meet
                    case rel => exact ⟨rfl, rfl, ⟨(below_drew1 (Below.refl wr.heap.size wr)).trans hb4⟩⟩
                case rest =>
                  obtain ⟨rfl, rfl, HBd⟩ := hcut
                  clear HSQ1
                  go_upto_region 24 with fail
                  go_cut [22, 23] (fun v22 v23 we => v22 = .int .i64 d ∧ v23 = .int .i64 0 ∧ Aside0 (Below wc.heap.size wc we))
                  case first =>
                    obtain ⟨ad, hA, u1, u2, u3⟩ := at_T30 (Kd.C_below (Kd.C_below (Kd.C_below HC.out HBi.out) HBk.out) HBd.out) i (by omega) (by omega)
                    subst hA
                    obtain ⟨ae, hE, u4, u5, u6⟩ := at_T30 (Kd.C_below (Kd.C_below (Kd.C_below HC.out HBi.out) HBk.out) HBd.out) k (by omega) (by omega)
                    obtain rfl := Option.some.inj hE
                    simp only [Int.toNat_natCast] at u1 u2 u3 u4 u5 u6
                    obtain ⟨p, hp⟩ : ∃ p, p = rd_T30 m i := ⟨_, rfl⟩
                    obtain ⟨q, hq⟩ : ∃ q, q = rd_T30 m k := ⟨_, rfl⟩
                    rw [← hp] at u1 u2 u3 HSQ2
                    rw [← hq] at u4 u5 u6 HSQ2
                    clear hp hq hE
                    go_region_held3 (fun W => W.cell? (ad.add (i * 3)) = some (.int .i64 p.f0) ∧ W.cell? ⟨(ad.add (i * 3)).block, (ad.add (i * 3)).off + 1, none⟩ = some (.int .i64 p.f1) ∧ W.cell? ⟨(ad.add (i * 3)).block, (ad.add (i * 3)).off + 2, none⟩ = some (.int .i64 p.f2) ∧ W.cell? (ad.add (k * 3)) = some (.int .i64 q.f0) ∧ W.cell? ⟨(ad.add (k * 3)).block, (ad.add (k * 3)).off + 1, none⟩ = some (.int .i64 q.f1) ∧ W.cell? ⟨(ad.add (k * 3)).block, (ad.add (k * 3)).off + 2, none⟩ = some (.int .i64 q.f2))
                      (first | exact ⟨u1, u2, u3, u4, u5, u6⟩ | exact ⟨(hb4.cell (World.block_lt_of_cell? wc _ u1)).trans u1, (hb4.cell (World.block_lt_of_cell? wc _ u2)).trans u2, (hb4.cell (World.block_lt_of_cell? wc _ u3)).trans u3, (hb4.cell (World.block_lt_of_cell? wc _ u4)).trans u4, (hb4.cell (World.block_lt_of_cell? wc _ u5)).trans u5, (hb4.cell (World.block_lt_of_cell? wc _ u6)).trans u6⟩ | fail)
                      (first | (go_at_call 15; refine (vector_SquareSpace.calls p.f0 p.f1 p.f2 q.f0 q.f1 q.f2 d 0 _ HSQ2.out).mono ?_; rintro e w4 ⟨rfl, hb4⟩))
                    all_goals
                      go_wp2
                      go_meet
                      case rel => exact ⟨rfl, rfl, ⟨(below_drew1 (Below.refl wc.heap.size wc)).trans hb4⟩⟩
                  case rest =>
                    obtain ⟨rfl, rfl, HBe⟩ := hcut
                    have hbd := HBk.out.trans (HBd.out.mono HBk.out.size)
                    have HBf := Aside0.mk (hbd.trans (HBe.out.mono hbd.size))
                    clear hbd hx hy hx2 hy2
                    go_wp2
                    go_roundw
                    case rel => exact ⟨k + 1, by omega, by go_num, HBf⟩
                    case measure => simp [intOf]; omega
              · go_wp2
                go_roundw
                case rel => exact ⟨i + 1, by omega, by go_num, ⟨HBi.out.trans (HBk.out.mono HBi.out.size)⟩⟩
                case measure => simp [intOf]; omega
          · go_wp2
            go_roundw
            case rel => exact ⟨j + 1, by omega, by go_num, ⟨HBr.out.trans (HBi.out.mono HBr.out.size)⟩⟩
            case measure => simp [intOf]; omega
      · go_wp2_with fail
        refine (metrolablaw31_awake.calls 100 true _ (Base.awake_k 100 (by omega))).mono ?_
        rintro e w12 ⟨rfl, hb12⟩
        go_wp2
        go_ret
        have H9 := HBW.out.trans (HBr.out.mono HBW.out.size)
        exact ⟨rfl, H9.trans (hb12.mono H9.size)⟩
theorem metrolablaw31_PointsKeep.calls (A0 : Option Addr) (c0 : Nat) (l0 : List S30) (a b c t : Int) (r : Bool) (w : World) (hr0 : Kd.C k30 w A0 l0.length l0) (hc0 : l0.length ≤ c0) (h : metrolablaw31_PointsKeep.f l0 a b c t = some r) :
    Calls Try.prog 7 #[.slice A0 l0.length c0, .agg #[.int .i64 a, .int .i64 b, .int .i64 c], .int .u8 t] w fun e w' => e = .returned (.bool r) ∧ Below w.heap.size w w' := by
  unfold metrolablaw31_PointsKeep.f at h
  by_cases ht : 0 ≤ t ∧ t ≤ 255
  case neg => rw [if_neg ht] at h; cases h
  rw [if_pos ht] at h
  obtain rfl := Option.some.inj h
  by_cases hg : Base.chk l0 = 0 ∧ l0.length ≤ 12
  · exact keep_walk A0 c0 l0 a b c t w hr0 hc0 hg.1 hg.2 ht
  · exact keep_wrong A0 c0 l0 a b c t w hr0 hc0 hg
end Go.Proofs.Ytgfkodanekfekaa.X

/- The law PointsThin walked: thinned spots are far from each other, and each spot that was left out is near to one of them; for all samples and gaps. -/
import Derived.Test.YtgfkodanekfekaaBase
import Derived.Test.YtgfkodanekfekaaX3
import Derived.Test.YtgfkodanekfekaaX7
import Derived.Test.YtgfkodanekfekaaX5
import Derived.Deep.RegionHeld3
namespace Go.Proofs.Ytgfkodanekfekaa.X
open Go.RowKit Go.Proofs.YtgfkodanekfekaaW.PrintWords Go.Proofs.YtgfkodanekfekaaW.PrintLast Go.Proofs.YtgfkodanekfekaaW.PrintMore
attribute [local go_sem] max2_int min2_int max_two min_two max_three min_three max_four min_four
set_option linter.unusedVariables false
set_option linter.unusedSimpArgs false
theorem pt_rd (l : List S30) (i : Nat) (h : i < l.length) : rd_T30 l i = l[i] := by
  unfold rd_T30; rw [Int.toNat_natCast, List.getD_eq_getElem?_getD, List.getElem?_eq_getElem h]; rfl
theorem thin_prefix1 (gap : Int) (l : List S30) (p : S30) : thinF gap l <+: thinF gap (l ++ [p]) := by
  rw [thinF_snoc]
  split
  · exact List.prefix_refl _
  · exact List.prefix_append _ _
theorem thin_prefix (gap : Int) (l : List S30) : ∀ d i, i + d = l.length → thinF gap (l.take i) <+: thinF gap l := by
  intro d
  induction d with
  | zero => intro i hi; rw [List.take_of_length_le (by omega)]; exact List.prefix_refl _
  | succ d ih =>
    intro i hi
    have := ih (i + 1) (by omega)
    rw [List.take_succ_eq_append_getElem (by omega)] at this
    exact (thin_prefix1 gap _ _).trans this
theorem thin_pair (gap : Int) (l : List S30) : ∀ i, i ≤ l.length → (thinF gap (l.take i)).Pairwise (fun q p => nearG gap p q = false) := by
  intro i
  induction i with
  | zero => intro _; simp [thinF]
  | succ i ih =>
    intro h
    rw [List.take_succ_eq_append_getElem (by omega), thinF_snoc]
    split
    · exact ih (by omega)
    · rename_i hn
      rw [List.pairwise_append]
      refine ⟨ih (by omega), List.pairwise_singleton _ _, fun a ha b hb => ?_⟩
      rw [List.mem_singleton] at hb
      subst hb
      rw [Bool.not_eq_true, List.any_eq_false] at hn
      have := hn a ha
      simpa using this
theorem thin_far (gap : Int) (l : List S30) (i k : Nat) (hk : k < i) (hi : i < (thinF gap l).length) : nearG gap (rd_T30 (thinF gap l) i) (rd_T30 (thinF gap l) k) = false := by
  have h := thin_pair gap l l.length (Nat.le_refl _)
  rw [List.take_length] at h
  rw [pt_rd _ _ hi, pt_rd _ _ (by omega)]
  exact (List.pairwise_iff_getElem.mp h) k i (by omega) hi hk
theorem thin_mem (gap : Int) (l : List S30) : ∀ i, i ≤ l.length → ∀ q ∈ thinF gap (l.take i), q ∈ l := by
  intro i
  induction i with
  | zero => intro _ q hq; simp [thinF] at hq
  | succ i ih =>
    intro h q hq
    rw [List.take_succ_eq_append_getElem (by omega), thinF_snoc] at hq
    split at hq
    · exact ih (by omega) q hq
    · rcases List.mem_append.mp hq with hq | hq
      · exact ih (by omega) q hq
      · rw [List.mem_singleton] at hq; subst hq; exact List.getElem_mem _
theorem thin_keep (gap : Int) (l : List S30) (i a : Nat) (hi : i < l.length) (ha : a < (thinF gap l).length) (he : rd_T30 (thinF gap l) a = rd_T30 l i) (h : thinF gap (l.take i) = (thinF gap l).take a) : thinF gap (l.take (i + 1)) = (thinF gap l).take (a + 1) := by
  rw [List.take_succ_eq_append_getElem hi, thinF_snoc, h]
  rw [pt_rd _ _ ha, pt_rd _ _ hi] at he
  have hp := thin_pair gap l l.length (Nat.le_refl _)
  rw [List.take_length] at hp
  have hn : ¬ ((thinF gap l).take a).any (nearG gap l[i]) = true := by
    intro hh
    obtain ⟨q, hq, hq2⟩ := List.any_eq_true.mp hh
    obtain ⟨k, hk, rfl⟩ := List.getElem_of_mem hq
    rw [List.length_take] at hk
    rw [List.getElem_take, ← he] at hq2
    have := (List.pairwise_iff_getElem.mp hp) k a (by omega) ha (by omega)
    rw [this] at hq2
    cases hq2
  rw [if_neg hn, List.take_succ_eq_append_getElem ha, he]
theorem thin_drop (gap : Int) (l : List S30) (i a : Nat) (hi : i < l.length) (ha : a ≤ (thinF gap l).length) (hn : ¬ (a < (thinF gap l).length ∧ rd_T30 (thinF gap l) a = rd_T30 l i)) (h : thinF gap (l.take i) = (thinF gap l).take a) : ((thinF gap l).take a).any (nearG gap (rd_T30 l i)) = true ∧ thinF gap (l.take (i + 1)) = (thinF gap l).take a := by
  have hs := thinF_snoc gap (l.take i) l[i]
  rw [← List.take_succ_eq_append_getElem hi, h] at hs
  rw [pt_rd _ _ hi]
  by_cases hh : ((thinF gap l).take a).any (nearG gap l[i]) = true
  · rw [if_pos hh] at hs
    exact ⟨hh, hs⟩
  · rw [if_neg hh] at hs
    exfalso
    obtain ⟨t, ht⟩ := thin_prefix gap l (l.length - (i + 1)) (i + 1) (by omega)
    rw [hs] at ht
    have hlen : ((thinF gap l).take a).length = a := by rw [List.length_take]; omega
    have ha2 : a < (thinF gap l).length := by rw [← ht]; simp only [List.length_append, hlen, List.length_singleton]; omega
    refine hn ⟨ha2, ?_⟩
    rw [pt_rd _ _ ha2, pt_rd _ _ hi]
    have h1 : (thinF gap l)[a]? = some l[i] := by
      rw [← ht, List.append_assoc, List.getElem?_append_right (by omega), hlen]
      simp
    rw [List.getElem?_eq_getElem ha2] at h1
    exact Option.some.inj h1
theorem thin_first (gap : Int) (l : List S30) (h : 0 < l.length) : 0 < (thinF gap l).length ∧ rd_T30 (thinF gap l) (0 : Nat) = rd_T30 l (0 : Nat) := by
  have h1 := thin_drop gap l 0 0 h (Nat.zero_le _)
  by_cases hc : 0 < (thinF gap l).length ∧ rd_T30 (thinF gap l) (0 : Nat) = rd_T30 l (0 : Nat)
  · exact hc
  · have := (h1 hc (by simp [thinF])).1
    simp at this
theorem thin_sq {p q : S30} (hp : okSpot p = true) (hq : okSpot q = true) : vector_SquareSpace.f p.f0 p.f1 p.f2 q.f0 q.f1 q.f2 = some (sqS p q, 0) := by
  obtain ⟨e, he⟩ := sqS_some p q
  have h := he
  unfold vector_SquareSpace.f vector_reach.f vector_beam_dot.f at h
  rw [if_pos (by rw [show (⟨p.f0, p.f1, p.f2⟩ : S30) = p from rfl, show (⟨q.f0, q.f1, q.f2⟩ : S30) = q from rfl, hp, hq]; rfl)] at h
  simp only [Option.bind_some, Option.some.injEq, Prod.mk.injEq] at h
  rw [he, ← h.2]
def metrolablaw31_PointsThin.f (l : List S30) (a : Int) : Option Bool := if 0 ≤ a ∧ a ≤ 65535 then some true else none
set_option maxHeartbeats 2000000 in
set_option maxRecDepth 100000 in
theorem thin_wrong (A0 : Option Addr) (c0 : Nat) (l0 : List S30) (a1 : Int) (w : World) (hr0 : Kd.C k30 w A0 l0.length l0) (hc0 : l0.length ≤ c0) (hg : ¬ (Base.chk l0 = 0 ∧ l0.length ≤ 20)) :
    Calls Try.prog 3 #[.slice A0 l0.length c0, .int .u16 a1] w fun e w' => e = .returned (.bool true) ∧ Below w.heap.size w w' := by
  have HR := Aside0.mk hr0
  have hrt : metrolablaw31_right.f 100 l0 = some (Base.chk l0 == 0) := by unfold metrolablaw31_right.f; rw [Base.rcheck_f l0 100 (by omega)]; rfl
  have HRT := Aside0.mk hrt
  clear hr0 hrt
  by_cases hk : Base.chk l0 = 0
  · have d0 : decide (20 < (l0.length : Int)) = true := decide_eq_true (by omega)
    rw [beq_iff_eq.mpr hk] at HRT
    clear hg hk
    go_enter Try.func3, Try.ntmps3
    go_wp2_with (first
      | (go_at_call 12; refine (metrolablaw31_right.calls 100 A0 c0 l0 true _ HR.out hc0 HRT.out).mono ?_; rintro e w1 ⟨rfl, hb1⟩)
      | (go_at_call 13; refine (metrolablaw31_awake.calls 100 true _ (Base.awake_k 100 (by omega))).mono ?_; rintro e w2 ⟨rfl, hb2⟩))
    go_ret
    exact ⟨rfl, hb1.trans (hb2.mono hb1.size)⟩
  · rw [beq_eq_false_iff_ne.mpr hk] at HRT
    clear hg hk
    go_enter Try.func3, Try.ntmps3
    go_wp2_with (first
      | (go_at_call 12; refine (metrolablaw31_right.calls 100 A0 c0 l0 false _ HR.out hc0 HRT.out).mono ?_; rintro e w1 ⟨rfl, hb1⟩)
      | (go_at_call 13; refine (metrolablaw31_awake.calls 100 true _ (Base.awake_k 100 (by omega))).mono ?_; rintro e w2 ⟨rfl, hb2⟩))
    go_ret
    exact ⟨rfl, hb1.trans (hb2.mono hb1.size)⟩
set_option maxHeartbeats 4000000 in
set_option maxRecDepth 100000 in
theorem thin_walk (A0 : Option Addr) (c0 : Nat) (l0 : List S30) (a1 : Int) (w : World) (hr0 : Kd.C k30 w A0 l0.length l0) (hc0 : l0.length ≤ c0) (hg : Base.chk l0 = 0) (h20 : l0.length ≤ 20) (h0 : 0 ≤ a1) (h1 : a1 ≤ 65535) :
    Calls Try.prog 3 #[.slice A0 l0.length c0, .int .u16 a1] w fun e w' => e = .returned (.bool true) ∧ Below w.heap.size w w' := by
  have HR := Aside0.mk hr0
  have hrt : metrolablaw31_right.f 100 l0 = some true := by unfold metrolablaw31_right.f; rw [Base.rcheck_f l0 100 (by omega), hg]; rfl
  have HRT := Aside0.mk hrt
  have HT := Aside0.mk (show points_Thin.f l0 a1 = some (thinF a1 l0, 0) from by
    unfold points_Thin.f
    rw [Base.vcheck_f, hg, Option.bind_some, if_pos rfl, if_neg (by omega), if_neg (by omega)])
  have hok := (Base.chk_zero hg).2
  have HOK := Aside0.mk hok
  have HMEM := Aside0.mk (fun (q : S30) (hq : q ∈ thinF a1 l0) => hok q (by
    have := thin_mem a1 l0 l0.length (Nat.le_refl _)
    rw [List.take_length] at this
    exact this q hq))
  have HFAR := Aside0.mk (thin_far a1 l0)
  have HKEEP := Aside0.mk (thin_keep a1 l0)
  have HDROP := Aside0.mk (thin_drop a1 l0)
  have HFIRST := Aside0.mk (thin_first a1 l0)
  have HLEN := Aside0.mk (show (thinF a1 l0).length ≤ 20 from by have := thinF_length a1 l0 l0.length (Nat.le_refl _); rw [List.take_length] at this; omega)
  have d20 : decide (20 < (l0.length : Int)) = false := decide_eq_false (by omega)
  clear hr0 hrt hg hok
  have H20 := Aside0.mk h20
  clear h20
  go_enter Try.func3, Try.ntmps3
  go_upto_region 5 with (first
    | (go_at_call 12; refine (metrolablaw31_right.calls 100 A0 c0 l0 true _ HR.out hc0 HRT.out).mono ?_; rintro e w1 ⟨rfl, hb1⟩)
    | (go_at_call 14; refine (points_Thin.calls A0 c0 l0 a1 (thinF a1 l0) 0 _ (Kd.C_below HR.out hb1) hc0 HT.out).mono ?_; rintro e w2 ⟨v2, rfl, ho2, hb2⟩))
  obtain ⟨A7, c7, hv7, hc7, hC7⟩ := Kd.R_reads ho2
  subst hv7
  have HB := Aside0.mk (hb1.trans (hb2.mono hb1.size))
  have HM := Aside0.mk hC7
  have HL := Aside0.mk (Kd.C_below HR.out HB.out)
  clear hC7 ho2 hb1 hb2
  obtain ⟨m, hm⟩ : ∃ m, m = thinF a1 l0 := ⟨_, rfl⟩
  simp only [← hm] at HM HMEM HFAR HKEEP HDROP HFIRST HLEN hc7 ⊢
  have HMEQ := Aside0.mk hm
  clear hm
  (try simp only [Act.put, List.setIfInBounds_toArray, List.set_cons_zero, List.set_cons_succ])
  go_cut [57] (fun v57 wc => v57 = .bool false ∧ Aside0 (Below w2.heap.size w2 wc))
  case first =>
    by_cases hz : l0.length = 0
    · have d0 : decide (0 < (l0.length : Int)) = false := decide_eq_false (by omega)
      have d1 : decide (0 < l0.length) = false := decide_eq_false (by omega)
      clear hz
      go_quiet (fail)
      all_goals
        (try go_wp2)
        go_meet
        case rel => exact ⟨rfl, ⟨by first | exact Below.refl _ _ | exact pw_below_drewN (Below.refl _ _) _ | exact below_drew1 (Below.refl _ _)⟩⟩
    · have hpos : 0 < l0.length := by omega
      obtain ⟨hm0, hmf⟩ := HFIRST.out hpos
      have d0 : decide (0 < (l0.length : Int)) = true := decide_eq_true (by omega)
      have d1 : decide (0 < l0.length) = true := decide_eq_true (by omega)
      have d2 : ((m.length : Int) == 0) = false := beq_eq_false_iff_ne.mpr (by omega)
      have d3 : (m.length == 0) = false := beq_eq_false_iff_ne.mpr (by omega)
      obtain ⟨ad, hA, q1, q2, q3⟩ := at_T30 HM.out 0 (by omega) (by omega)
      obtain ⟨ae, hE, u1, u2, u3⟩ := at_T30 HL.out 0 (by omega) (by omega)
      simp only [Int.toNat_zero, Nat.zero_mul, Addr.add_zero'] at q1 q2 q3 u1 u2 u3
      subst hA
      subst hE
      rw [show rd_T30 m 0 = rd_T30 l0 0 from hmf] at q1 q2 q3
      obtain ⟨p, hp⟩ : ∃ p, p = rd_T30 l0 0 := ⟨_, rfl⟩
      rw [← hp] at q1 q2 q3 u1 u2 u3
      have p0 : ((0 : Int) ≤ 0) = True := eq_true (by omega)
      have p1 : ((0 : Int) < (l0.length : Int)) = True := eq_true (by omega)
      have p2 : ((0 : Int) < (m.length : Int)) = True := eq_true (by omega)
      have p3 : (0 < l0.length) = True := eq_true (by omega)
      have p4 : (0 < m.length) = True := eq_true (by omega)
      clear hz hpos hm0 hmf hp
      go_quiet (fail)
      all_goals
        (try go_wp2)
        go_meet
        case rel => exact ⟨rfl, ⟨by first | exact Below.refl _ _ | exact pw_below_drewN (Below.refl _ _) _ | exact below_drew1 (Below.refl _ _)⟩⟩
  case rest =>
    obtain ⟨rfl, HBc⟩ := hcut
    have HM2 := HM
    have HZ := Aside0.mk (And.intro h0 h1)
    clear h0 h1 HRT HT
    go_wp2
    go_loopw [60] (fun v60 wr => ∃ i : Nat, i ≤ m.length ∧ v60 = .int .i64 i ∧ Aside0 (Below w2.heap.size w2 wr)) (fun v60 _ => m.length - (intOf v60).toNat)
    case atStart => exact ⟨0, Nat.zero_le _, rfl, HBc⟩
    case round =>
      clear HBc
      obtain ⟨i, hi, rfl, HBr⟩ := hrel
      have hml : (m.length : Int) ≤ 20 := by have := HLEN.out; omega
      by_cases hlt : i < m.length
      · go_wp2
        go_loopw [64] (fun v64 wi => ∃ k : Nat, k ≤ i ∧ v64 = .int .i64 k ∧ Aside0 (Below w2.heap.size w2 wi)) (fun v64 _ => i - (intOf v64).toNat)
        case atStart => exact ⟨0, Nat.zero_le _, rfl, HBr⟩
        case round =>
          clear HBr
          obtain ⟨k, hk, rfl, HBi⟩ := hrel
          by_cases hlt2 : k < i
          · obtain ⟨ad, hA, q1, q2, q3⟩ := at_T30 (Kd.C_below HM.out HBi.out) i (by omega) (by omega)
            subst hA
            obtain ⟨ae, hE, u1, u2, u3⟩ := at_T30 (Kd.C_below HM.out HBi.out) k (by omega) (by omega)
            obtain rfl := Option.some.inj hE
            simp only [Int.toNat_natCast] at q1 q2 q3 u1 u2 u3
            have hfar := HFAR.out i k hlt2 hlt
            obtain ⟨p, hp⟩ : ∃ p, p = rd_T30 m i := ⟨_, rfl⟩
            obtain ⟨q, hq⟩ : ∃ q, q = rd_T30 m k := ⟨_, rfl⟩
            have hpo : okSpot p = true := HMEM.out p (by rw [hp, pt_rd _ _ hlt]; exact List.getElem_mem _)
            have hqo : okSpot q = true := HMEM.out q (by rw [hq, pt_rd _ _ (by omega)]; exact List.getElem_mem _)
            rw [← hp] at q1 q2 q3 hfar
            rw [← hq] at u1 u2 u3 hfar
            have HSQ := Aside0.mk (thin_sq hpo hqo)
            obtain ⟨d, hd⟩ : ∃ d, d = sqS p q := ⟨_, rfl⟩
            unfold nearG at hfar
            rw [← hd] at HSQ hfar
            have HF := Aside0.mk hfar
            clear hp hq hpo hqo hd hfar hE
            go_upto_region 13 with fail
            go_cut [10, 11] (fun v10 v11 wc => v10 = .int .i64 d ∧ v11 = .int .i64 0 ∧ Aside0 (Below w2.heap.size w2 wc))
            case first =>
              have hx : ((i : Int) < (m.length : Int)) = True := eq_true (by omega)
              have hy : ((k : Int) < (m.length : Int)) = True := eq_true (by omega)
              have hx2 : (i < m.length) = True := eq_true (by omega)
              have hy2 : (k < m.length) = True := eq_true (by omega)
              go_region_held3 (fun W => W.cell? (ad.add (i * 3)) = some (.int .i64 p.f0) ∧ W.cell? ⟨(ad.add (i * 3)).block, (ad.add (i * 3)).off + 1, none⟩ = some (.int .i64 p.f1) ∧ W.cell? ⟨(ad.add (i * 3)).block, (ad.add (i * 3)).off + 2, none⟩ = some (.int .i64 p.f2) ∧ W.cell? (ad.add (k * 3)) = some (.int .i64 q.f0) ∧ W.cell? ⟨(ad.add (k * 3)).block, (ad.add (k * 3)).off + 1, none⟩ = some (.int .i64 q.f1) ∧ W.cell? ⟨(ad.add (k * 3)).block, (ad.add (k * 3)).off + 2, none⟩ = some (.int .i64 q.f2))
                (first | exact ⟨q1, q2, q3, u1, u2, u3⟩ | with_reducible exact hHeld | exact ⟨(hb4.cell (World.block_lt_of_cell? wr _ q1)).trans q1, (hb4.cell (World.block_lt_of_cell? wr _ q2)).trans q2, (hb4.cell (World.block_lt_of_cell? wr _ q3)).trans q3, (hb4.cell (World.block_lt_of_cell? wr _ u1)).trans u1, (hb4.cell (World.block_lt_of_cell? wr _ u2)).trans u2, (hb4.cell (World.block_lt_of_cell? wr _ u3)).trans u3⟩ | fail)
                (first | (go_at_call 15; refine (vector_SquareSpace.calls p.f0 p.f1 p.f2 q.f0 q.f1 q.f2 d 0 _ HSQ.out).mono ?_; rintro e w4 ⟨rfl, hb4⟩))
              all_goals
                go_wp2
                go_meet
                case rel => exact ⟨rfl, rfl, ⟨(below_drew1 HBi.out).trans (hb4.mono HBi.out.size)⟩⟩
            case rest =>
              obtain ⟨rfl, rfl, HBc⟩ := hcut
              have hff := HF.out
              go_wp2
              go_roundw
              case rel => exact ⟨k + 1, by omega, by go_num, HBc⟩
              case measure => simp [intOf]; omega
          · go_wp2
            go_roundw
            case rel => exact ⟨i + 1, by omega, by go_num, HBi⟩
            case measure => simp [intOf]; omega
      · have HBA := HBr
        clear HBr
        go_wp2
        clear hlt
        go_loopw [12, 92] (fun v12 v92 wr => ∃ a i : Nat, a ≤ m.length ∧ i ≤ l0.length ∧ v12 = .int .i64 a ∧ v92 = .int .i64 i ∧ Aside0 (thinF a1 (l0.take i) = m.take a) ∧ Aside0 (Below w2.heap.size w2 wr)) (fun _ v92 _ => l0.length - (intOf v92).toNat)
        case atStart => exact ⟨0, 0, Nat.zero_le _, Nat.zero_le _, rfl, rfl, ⟨by simp [thinF]⟩, HBA⟩
        case round =>
          clear HBA
          obtain ⟨a, i, ha, hi, rfl, rfl, HTH, HBr⟩ := hrel
          have hll : (l0.length : Int) ≤ 20 := by have := H20.out; omega
          have hsa : (a : Int) ≤ 20 := by omega
          by_cases hlt : i < l0.length
          · obtain ⟨ad, hA, q1, q2, q3⟩ := at_T30 (Kd.C_below HL.out HBr.out) i (by omega) (by omega)
            subst hA
            simp only [Int.toNat_natCast] at q1 q2 q3
            obtain ⟨p, hp⟩ : ∃ p, p = rd_T30 l0 i := ⟨_, rfl⟩
            have hpo : okSpot p = true := HOK.out p (by rw [hp, pt_rd _ _ hlt]; exact List.getElem_mem _)
            rw [← hp] at q1 q2 q3
            have HP := Aside0.mk hp
            have HPO := Aside0.mk hpo
            obtain ⟨b, hb⟩ : ∃ b : Bool, b = decide (a < m.length ∧ (rd_T30 m a).f0 = p.f0 ∧ (rd_T30 m a).f1 = p.f1 ∧ (rd_T30 m a).f2 = p.f2) := ⟨_, rfl⟩
            have HBB := Aside0.mk hb
            clear hp hpo hb
            go_upto_region 22 with fail
            have HGP := Aside0.mk (heap_alloc_new wr (.cells #[.int .i64 p.f0, .int .i64 p.f1, .int .i64 p.f2] 30))
            have HB1 := Aside0.mk (HBr.out.alloc HBr.out.size (.cells #[.int .i64 p.f0, .int .i64 p.f1, .int .i64 p.f2] 30))
            have hsz := HBr.out.size
            go_cut [107] (fun v107 wc => v107 = .bool b ∧ Aside0 (Below w2.heap.size w2 wc) ∧ Aside0 (wc.heap[wr.heap.size]? = some (.cells #[.int .i64 p.f0, .int .i64 p.f1, .int .i64 p.f2] 30 (0, 0))))
            case first =>
              have hb := HBB.out
              have hd0 := HGP.out
              have z0 : (wr.alloc (.cells #[.int .i64 p.f0, .int .i64 p.f1, .int .i64 p.f2] 30)).cell? ⟨wr.heap.size, 0, none⟩ = some (.int .i64 p.f0) := (blk_cell hd0 0).trans rfl
              have z1 : (wr.alloc (.cells #[.int .i64 p.f0, .int .i64 p.f1, .int .i64 p.f2] 30)).cell? ⟨wr.heap.size, 1, none⟩ = some (.int .i64 p.f1) := (blk_cell hd0 1).trans rfl
              have z2 : (wr.alloc (.cells #[.int .i64 p.f0, .int .i64 p.f1, .int .i64 p.f2] 30)).cell? ⟨wr.heap.size, 2, none⟩ = some (.int .i64 p.f2) := (blk_cell hd0 2).trans rfl
              clear hd0
              by_cases hc : a < m.length
              · obtain ⟨ae, hE, u1, u2, u3⟩ := at_T30 (Kd.C_below HM.out HB1.out) a (by omega) (by omega)
                subst hE
                simp only [Int.toNat_natCast] at u1 u2 u3
                have hd : decide ((a : Int) < (m.length : Int)) = true := decide_eq_true (by omega)
                have hd2 : decide (a < m.length) = true := decide_eq_true hc
                have hx : ((a : Int) < (m.length : Int)) = True := eq_true (by omega)
                have hx2 : (a < m.length) = True := eq_true (by omega)
                have hbe : b = ((rd_T30 m a).f0 == p.f0 && ((rd_T30 m a).f1 == p.f1 && (rd_T30 m a).f2 == p.f2)) := by
                  rw [hb, Bool.eq_iff_iff]; simp [hc]
                have HBE := Aside0.mk hbe
                clear hb hbe hc
                obtain ⟨q, hq⟩ : ∃ q, q = rd_T30 m a := ⟨_, rfl⟩
                rw [← hq] at u1 u2 u3 HBE
                clear hq
                cases b
                · have hb0 := HBE.out.symm
                  clear HBE
                  obtain ⟨e0, e1, e2⟩ := q
                  simp only at u1 u2 u3 hb0
                  by_cases h0 : e0 = p.f0
                  · subst h0
                    by_cases h1 : e1 = p.f1
                    · subst h1
                      have h2 : (e2 == p.f2) = false := by simpa using hb0
                      clear hb0
                      go_quiet (fail)
                      all_goals
                        go_wp2
                        go_meet
                        case rel => exact ⟨rfl, ⟨by first | exact HB1.out | exact pw_below_drewN HB1.out _ | exact below_drew1 HB1.out⟩, HGP⟩
                    · have h2 : (e1 == p.f1) = false := beq_eq_false_iff_ne.mpr h1
                      clear hb0 h1
                      go_quiet (fail)
                      all_goals
                        go_wp2
                        go_meet
                        case rel => exact ⟨rfl, ⟨by first | exact HB1.out | exact pw_below_drewN HB1.out _ | exact below_drew1 HB1.out⟩, HGP⟩
                  · have h2 : (e0 == p.f0) = false := beq_eq_false_iff_ne.mpr h0
                    clear hb0 h0
                    go_quiet (fail)
                    all_goals
                      go_wp2
                      go_meet
                      case rel => exact ⟨rfl, ⟨by first | exact HB1.out | exact pw_below_drewN HB1.out _ | exact below_drew1 HB1.out⟩, HGP⟩
                · have hqp : q = p := by
                    have hb0 := HBE.out.symm
                    simp only [Bool.and_eq_true, beq_iff_eq] at hb0
                    cases q; cases p; simp only at hb0; rw [hb0.1, hb0.2.1, hb0.2.2]
                  subst hqp
                  clear HBE
                  go_quiet (fail)
                  all_goals
                    go_wp2
                    go_meet
                    case rel => exact ⟨rfl, ⟨by first | exact HB1.out | exact pw_below_drewN HB1.out _ | exact below_drew1 HB1.out⟩, HGP⟩
              · have hd : decide ((a : Int) < (m.length : Int)) = false := decide_eq_false (by omega)
                have hd2 : decide (a < m.length) = false := decide_eq_false hc
                have hbf : b = false := by rw [hb]; exact decide_eq_false (fun h => hc h.1)
                clear hb hc
                subst hbf
                go_quiet (fail)
                all_goals
                  go_wp2
                  go_meet
                  case rel => exact ⟨rfl, ⟨by first | exact HB1.out | exact pw_below_drewN HB1.out _ | exact below_drew1 HB1.out⟩, HGP⟩
            case rest =>
              obtain ⟨rfl, HBc, HGc⟩ := hcut
              obtain ⟨gp, hgp⟩ : ∃ gp, wr.heap.size = gp := ⟨_, rfl⟩
              rw [hgp] at HGc ⊢
              clear HB1 HGP hsz hgp
              cases b
              · have hn : ¬ (a < m.length ∧ rd_T30 m a = rd_T30 l0 i) := by
                  intro h
                  have hb := HBB.out
                  rw [HP.out] at hb
                  rw [h.2] at hb
                  simp [h.1] at hb
                obtain ⟨hany, hnext⟩ := HDROP.out i a hlt ha hn HTH.out
                rw [← HP.out] at hany
                have HANY := Aside0.mk hany
                have HNX := Aside0.mk hnext
                have hac : a ≤ c7 := by omega
                have hac2 : ((a : Int) ≤ (c7 : Int)) = True := eq_true (by omega)
                have hac3 : (a ≤ c7) = True := eq_true hac
                clear hn hany hnext
                go_wp2
                clear hac2 hac3
                go_loopw [15, 114] (fun v15 v114 wi => ∃ j : Nat, j ≤ a ∧ v114 = .int .i64 j ∧ v15 = .bool ((m.take j).any (nearG a1 p)) ∧ Aside0 (Below w2.heap.size w2 wi) ∧ Aside0 (wi.heap[gp]? = some (.cells #[.int .i64 p.f0, .int .i64 p.f1, .int .i64 p.f2] 30 (0, 0)))) (fun _ v114 _ => a - (intOf v114).toNat)
                case atStart => exact ⟨0, Nat.zero_le _, rfl, rfl, HBc, HGc⟩
                case round =>
                  clear HBc HGc
                  obtain ⟨j, hj, rfl, rfl, HBi, HGi⟩ := hrel
                  by_cases hlt2 : j < a
                  · obtain ⟨ae, hE, u1, u2, u3⟩ := at_T30 (Kd.C_below HM.out HBi.out) j (by omega) (by omega)
                    subst hE
                    simp only [Int.toNat_natCast] at u1 u2 u3
                    obtain ⟨q, hq⟩ : ∃ q, q = rd_T30 m j := ⟨_, rfl⟩
                    have hqo : okSpot q = true := HMEM.out q (by rw [hq, pt_rd _ _ (by omega)]; exact List.getElem_mem _)
                    have hsnoc : (m.take (j + 1)).any (nearG a1 p) = ((m.take j).any (nearG a1 p) || nearG a1 p q) := by
                      rw [List.take_succ_eq_append_getElem (by omega), List.any_append, List.any_cons, List.any_nil, Bool.or_false, hq, pt_rd _ _ (by omega)]
                    rw [← hq] at u1 u2 u3
                    have HSQ := Aside0.mk (thin_sq HPO.out hqo)
                    have HGA := Aside0.mk (blk_alloc HGi.out (.cells #[.int .i64 q.f0, .int .i64 q.f1, .int .i64 q.f2] 30))
                    have hga := HGA.out
                    have z0 : (wr.alloc (.cells #[.int .i64 q.f0, .int .i64 q.f1, .int .i64 q.f2] 30)).cell? ⟨gp, 0, none⟩ = some (.int .i64 p.f0) := (blk_cell hga 0).trans rfl
                    have z1 : (wr.alloc (.cells #[.int .i64 q.f0, .int .i64 q.f1, .int .i64 q.f2] 30)).cell? ⟨gp, 1, none⟩ = some (.int .i64 p.f1) := (blk_cell hga 1).trans rfl
                    have z2 : (wr.alloc (.cells #[.int .i64 q.f0, .int .i64 q.f1, .int .i64 q.f2] 30)).cell? ⟨gp, 2, none⟩ = some (.int .i64 p.f2) := (blk_cell hga 2).trans rfl
                    have HB2 := Aside0.mk (HBi.out.alloc HBi.out.size (.cells #[.int .i64 q.f0, .int .i64 q.f1, .int .i64 q.f2] 30))
                    have hx : ((j : Int) < (a : Int)) = True := eq_true (by omega)
                    have hx2 : (j < a) = True := eq_true hlt2
                    obtain ⟨b1, hb1⟩ : ∃ b1, (m.take j).any (nearG a1 p) = b1 := ⟨_, rfl⟩
                    obtain ⟨b2, hb2⟩ : ∃ b2, nearG a1 p q = b2 := ⟨_, rfl⟩
                    rw [hb1, hb2] at hsnoc
                    rw [hb1]
                    unfold nearG at hb2
                    obtain ⟨d, hd⟩ : ∃ d, d = sqS p q := ⟨_, rfl⟩
                    rw [← hd] at HSQ hb2
                    have HB12 := Aside0.mk hb2
                    have HSN := Aside0.mk hsnoc
                    clear hq hqo hsnoc hga hb1 hb2 hd
                    go_wp2_with fail
                    refine (vector_SquareSpace.calls p.f0 p.f1 p.f2 q.f0 q.f1 q.f2 d 0 _ HSQ.out).mono ?_
                    rintro e w4 ⟨rfl, hb4⟩
                    have HB3 := Aside0.mk (HB2.out.trans (hb4.mono HB2.out.size))
                    have HG3 := Aside0.mk ((hb4.block _ (blk_lt HGA.out)).trans HGA.out)
                    have hcmp := HB12.out
                    clear hb4 u1 u2 u3 z0 z1 z2
                    cases b1 <;> cases b2 <;>
                    (go_wp2
                     go_roundw
                     case rel => exact ⟨j + 1, by omega, by go_num, by rw [HSN.out]; rfl, HB3, HG3⟩
                     case measure => simp [intOf]; omega)
                  · obtain rfl : j = a := by omega
                    have hany := HANY.out
                    rw [hany]
                    clear hany
                    go_wp2
                    go_roundw
                    case rel => exact ⟨j, i + 1, by omega, by omega, rfl, by go_num, HNX, HBi⟩
                    case measure => simp [intOf]; omega
              · have hk : a < m.length ∧ rd_T30 m a = rd_T30 l0 i := by
                  have hb := of_decide_eq_true HBB.out.symm
                  refine ⟨hb.1, ?_⟩
                  rw [← HP.out]
                  cases h : rd_T30 m a
                  rw [h] at hb
                  simp only at hb
                  rw [hb.2.1, hb.2.2.1, hb.2.2.2]
                have HNX := Aside0.mk (HKEEP.out i a hlt hk.1 hk.2 HTH.out)
                have hk1 := hk.1
                clear hk
                go_wp2
                go_roundw
                case rel => exact ⟨a + 1, i + 1, by omega, by omega, by go_num, by go_num, HNX, HBc⟩
                case measure => simp [intOf]; omega
          · have he : a = m.length := by
              have h1 := HTH.out
              have h2 := HMEQ.out
              rw [List.take_of_length_le (by omega), ← h2] at h1
              have h3 := congrArg List.length h1
              rw [List.length_take] at h3
              omega
            have d0 : ((a : Int) == (m.length : Int)) = true := beq_iff_eq.mpr (by omega)
            have d1 : (a == m.length) = true := beq_iff_eq.mpr he
            go_wp2_with fail
            refine (metrolablaw31_awake.calls 100 true _ (Base.awake_k 100 (by omega))).mono ?_
            rintro e w12 ⟨rfl, hb12⟩
            go_wp2
            go_ret
            have H9 := HB.out.trans (HBr.out.mono HB.out.size)
            exact ⟨rfl, H9.trans (hb12.mono H9.size)⟩
theorem metrolablaw31_PointsThin.calls (A0 : Option Addr) (c0 : Nat) (l0 : List S30) (a : Int) (r : Bool) (w : World) (hr0 : Kd.C k30 w A0 l0.length l0) (hc0 : l0.length ≤ c0) (h : metrolablaw31_PointsThin.f l0 a = some r) :
    Calls Try.prog 3 #[.slice A0 l0.length c0, .int .u16 a] w fun e w' => e = .returned (.bool r) ∧ Below w.heap.size w w' := by
  unfold metrolablaw31_PointsThin.f at h
  by_cases ht : 0 ≤ a ∧ a ≤ 65535
  case neg => rw [if_neg ht] at h; cases h
  rw [if_pos ht] at h
  obtain rfl := Option.some.inj h
  by_cases hg : Base.chk l0 = 0 ∧ l0.length ≤ 20
  · exact thin_walk A0 c0 l0 a w hr0 hc0 hg.1 hg.2 ht.1 ht.2
  · exact thin_wrong A0 c0 l0 a w hr0 hc0 hg
end Go.Proofs.Ytgfkodanekfekaa.X

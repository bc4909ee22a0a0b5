/- points.Sorted and points.Same walked. -/
import Derived.Test.YtgfkodanekfekaaBaseOnce
import Derived.Test.YtgfkodanekfekaaX8
namespace Go.Proofs.Ytgfkodanekfekaa.X
open Go.RowKit Go.Proofs.YtgfkodanekfekaaW.PrintWords Go.Proofs.YtgfkodanekfekaaW.PrintLast Go.Proofs.YtgfkodanekfekaaW.PrintMore
set_option linter.unusedVariables false
set_option linter.unusedSimpArgs false
open Base (chk nubS vcheck_f unique_f chk_zero nubS_len sameR)
/-- what Sorted returns -/
def sortedR (l : List S30) : List S30 × Int := if chk l = 0 then (sortS (nubS l), 0) else ([], chk l)
theorem sortS_len (u : List S30) : (sortS u).length = u.length := List.length_mergeSort _
theorem sorted_good (A0 : Option Addr) (c0 : Nat) (l0 : List S30) (w : World) (hr0 : Kd.C k30 w A0 l0.length l0) (hc0 : l0.length ≤ c0) (h : l0.length ≤ 64) :
    Calls Try.prog 72 #[.slice A0 l0.length c0] w fun e w' => ∃ A c, e = .returned (.slice A (sortS (nubS l0)).length c) ∧ (sortS (nubS l0)).length ≤ c ∧ Kd.C k30 w' A (sortS (nubS l0)).length (sortS (nubS l0)) ∧ Below w.heap.size w w' :=
  sorted_calls 4000 A0 c0 l0 (nubS l0) w hr0 hc0 (unique_f l0 (by omega) 4000 (Nat.le_refl _)) (by have := nubS_len l0; omega)
set_option maxHeartbeats 4000000 in
theorem psorted_calls (A0 : Option Addr) (c0 : Nat) (l0 : List S30) (w : World) (hr0 : Kd.C k30 w A0 l0.length l0) (hc0 : l0.length ≤ c0) :
    Calls Try.prog 31 #[.slice A0 l0.length c0] w fun e w' => ∃ A c, e = .returned (.tuple #[.slice A (sortedR l0).1.length c, .int .i64 (sortedR l0).2]) ∧ (sortedR l0).1.length ≤ c ∧ Kd.C k30 w' A (sortedR l0).1.length (sortedR l0).1 ∧ Below w.heap.size w w' := by
  have HR := Aside0.mk hr0
  have HV := Aside0.mk (vcheck_f l0)
  unfold sortedR
  obtain ⟨e0, he0⟩ : ∃ e, chk l0 = e := ⟨_, rfl⟩
  rw [he0] at HV ⊢
  by_cases hz : e0 = 0
  · subst hz
    have HS := Aside0.mk (chk_zero he0).1
    rw [if_pos rfl]
    obtain ⟨s, hs⟩ : ∃ s, s = sortS (nubS l0) := ⟨_, rfl⟩
    have HSG := Aside0.mk (fun w hr => sorted_good A0 c0 l0 w hr hc0 HS.out)
    simp only [← hs] at HSG ⊢
    clear hr0 hs he0
    go_enter Try.func31, Try.ntmps31
    go_wp2_with fail
    refine (vector_CheckSpots.calls A0 c0 l0 0 _ HR.out hc0 HV.out).mono ?_
    rintro e w1 ⟨rfl, hb1⟩
    go_wp2_with fail
    refine (HSG.out _ (Kd.C_below HR.out hb1)).mono ?_
    rintro e w2 ⟨A, c, rfl, hc, hC, hb2⟩
    have HC := Aside0.mk hC
    have HB := Aside0.mk (hb1.trans (hb2.mono hb1.size))
    clear hC hb1 hb2
    go_wp2
    go_ret2
    exact ⟨A, c, rfl, hc, HC.out, HB.out⟩
  · have hne : (e0 != 0) = true := bne_iff_ne.mpr hz
    rw [if_neg hz]
    clear hr0 hz he0
    go_enter Try.func31, Try.ntmps31
    go_wp2_with fail
    refine (vector_CheckSpots.calls A0 c0 l0 e0 _ HR.out hc0 HV.out).mono ?_
    rintro e w1 ⟨rfl, hb1⟩
    go_wp2
    go_ret2
    exact ⟨none, 0, rfl, Nat.le_refl _, Kd.C_nil _ _, hb1⟩
theorem few_below (A0 : Option Addr) (c0 : Nat) (l0 : List S30) (r : Bool) (w : World) (hr0 : Kd.C k30 w A0 l0.length l0) (hc0 : l0.length ≤ c0) (h : metrolabref31_Few.f l0 = some r) :
    Calls Try.prog 16 #[.slice A0 l0.length c0] w fun e w' => e = .returned (.bool r) ∧ Below w.heap.size w w' :=
  (metrolabref31_Few.calls A0 c0 l0 r w hr0 hc0 h).mono fun e w' ⟨he, hb⟩ => by
    obtain ⟨n, rfl⟩ := hb
    exact ⟨he, pw_below_drewN (Below.refl _ _) n⟩
theorem index_p0 (A B : Option Addr) (n m c d : Nat) (W : World) : (Instr.index 101 (.agg #[.slice A n c, .slice B m d]) (.int .i64 0)).run Try.prog W = .ok (.slice A n c) W := by
  simp [Instr.index, run_underlying (show Try.prog.underlying 101 = some (.array 2 22) from by kernel_rfl), asIntOf, go_sem]
theorem index_p1 (A B : Option Addr) (n m c d : Nat) (W : World) : (Instr.index 101 (.agg #[.slice A n c, .slice B m d]) (.int .i64 1)).run Try.prog W = .ok (.slice B m d) W := by
  simp [Instr.index, run_underlying (show Try.prog.underlying 101 = some (.array 2 22) from by kernel_rfl), asIntOf, go_sem]
set_option maxHeartbeats 4000000 in
set_option maxRecDepth 100000 in
theorem same_calls (A0 A1 : Option Addr) (c0 c1 : Nat) (a b : List S30) (w : World) (ha : Kd.C k30 w A0 a.length a) (hca : a.length ≤ c0) (hb : Kd.C k30 w A1 b.length b) (hcb : b.length ≤ c1) :
    Calls Try.prog 36 #[.slice A0 a.length c0, .slice A1 b.length c1] w fun e w' => e = .returned (.tuple #[.bool (sameR a b).1, .int .i64 (sameR a b).2]) ∧ Below w.heap.size w w' := by
  have HRA := Aside0.mk ha
  have HRB := Aside0.mk hb
  have HVA := Aside0.mk (vcheck_f a)
  have HVB := Aside0.mk (vcheck_f b)
  obtain ⟨⟨r1, r2⟩, hr⟩ : ∃ r, sameR a b = r := ⟨_, rfl⟩
  have HS := Aside0.mk hr
  rw [hr]
  clear ha hb hr
  go_enter Try.func36, Try.ntmps36
  go_wp2
  go_loopw [12] (fun v12 wr => ∃ i : Nat, i ≤ 2 ∧ v12 = .int .i64 i ∧ Aside0 (1 ≤ i → chk a = 0) ∧ Aside0 (2 ≤ i → chk b = 0) ∧ Aside0 (Below w.heap.size w wr)) (fun v12 _ => 2 - (intOf v12).toNat)
  case atStart => exact ⟨0, by omega, rfl, ⟨fun h => absurd h (by omega)⟩, ⟨fun h => absurd h (by omega)⟩, ⟨Below.refl _ _⟩⟩
  case round =>
    obtain ⟨i, hi, rfl, HA, HB, HBr⟩ := hrel
    obtain rfl | rfl | rfl : i = 0 ∨ i = 1 ∨ i = 2 := by omega
    · have hix := fun W => index_p0 A0 A1 a.length b.length c0 c1 W
      obtain ⟨e0, he0⟩ : ∃ e, chk a = e := ⟨_, rfl⟩
      rw [he0] at HVA
      have HE := Aside0.mk he0
      by_cases hz : e0 = 0
      · subst hz
        clear he0
        go_wp2_with fail
        refine (vector_CheckSpots.calls A0 c0 a 0 _ (Kd.C_below HRA.out HBr.out) hca HVA.out).mono ?_
        rintro e w1 ⟨rfl, hb1⟩
        go_wp2
        go_roundw
        case rel => exact ⟨1, by omega, rfl, ⟨fun _ => HE.out⟩, ⟨fun h => absurd h (by omega)⟩, ⟨HBr.out.trans (hb1.mono HBr.out.size)⟩⟩
        case measure => simp [intOf]
      · have hne : (e0 != 0) = true := bne_iff_ne.mpr hz
        have HZ := Aside0.mk hz
        clear he0 hz
        go_wp2_with fail
        refine (vector_CheckSpots.calls A0 c0 a e0 _ (Kd.C_below HRA.out HBr.out) hca HVA.out).mono ?_
        rintro e w1 ⟨rfl, hb1⟩
        go_wp2
        go_ret2
        have hs := HS.out
        unfold sameR at hs
        rw [HE.out, if_neg HZ.out] at hs
        obtain ⟨rfl, rfl⟩ := Prod.mk.inj hs
        exact ⟨rfl, HBr.out.trans (hb1.mono HBr.out.size)⟩
    · have hix := fun W => index_p1 A0 A1 a.length b.length c0 c1 W
      have HA2 := Aside0.mk (HA.out (by omega))
      obtain ⟨e0, he0⟩ : ∃ e, chk b = e := ⟨_, rfl⟩
      rw [he0] at HVB
      have HE := Aside0.mk he0
      by_cases hz : e0 = 0
      · subst hz
        clear he0
        go_wp2_with fail
        refine (vector_CheckSpots.calls A1 c1 b 0 _ (Kd.C_below HRB.out HBr.out) hcb HVB.out).mono ?_
        rintro e w1 ⟨rfl, hb1⟩
        go_wp2
        go_roundw
        case rel => exact ⟨2, by omega, rfl, ⟨fun _ => HA2.out⟩, ⟨fun _ => HE.out⟩, ⟨HBr.out.trans (hb1.mono HBr.out.size)⟩⟩
        case measure => simp [intOf]
      · have hne : (e0 != 0) = true := bne_iff_ne.mpr hz
        have HZ := Aside0.mk hz
        clear he0 hz
        go_wp2_with fail
        refine (vector_CheckSpots.calls A1 c1 b e0 _ (Kd.C_below HRB.out HBr.out) hcb HVB.out).mono ?_
        rintro e w1 ⟨rfl, hb1⟩
        go_wp2
        go_ret2
        have hs := HS.out
        unfold sameR at hs
        rw [HA2.out, if_pos rfl, HE.out, if_neg HZ.out] at hs
        obtain ⟨rfl, rfl⟩ := Prod.mk.inj hs
        exact ⟨rfl, HBr.out.trans (hb1.mono HBr.out.size)⟩
    · have HA2 := Aside0.mk (HA.out (by omega))
      have HB2 := Aside0.mk (HB.out (by omega))
      have hs := HS.out
      unfold sameR at hs
      rw [HA2.out, if_pos rfl, HB2.out, if_pos rfl] at hs
      have hs2 := (Prod.mk.inj hs).1
      obtain rfl := (Prod.mk.inj hs).2
      have HLA := Aside0.mk (chk_zero HA2.out).1
      have HLB := Aside0.mk (chk_zero HB2.out).1
      obtain ⟨s, hs1⟩ : ∃ s, s = sortS (nubS a) := ⟨_, rfl⟩
      obtain ⟨t, ht1⟩ : ∃ t, t = sortS (nubS b) := ⟨_, rfl⟩
      have HSA := Aside0.mk (fun w hr => sorted_good A0 c0 a w hr hca HLA.out)
      have HSB := Aside0.mk (fun w hr => sorted_good A1 c1 b w hr hcb HLB.out)
      have HSL := Aside0.mk (show s.length ≤ 64 from by rw [hs1, sortS_len]; have := nubS_len a; have := HLA.out; omega)
      simp only [← hs1] at HSA
      simp only [← ht1] at HSB
      rw [← hs1, ← ht1] at hs2
      have HEQ := Aside0.mk (show api_Spot_21.f 100 s t = some r1 from by rw [Base.eq30_f s t (by have := HSL.out; omega) 100 (by have := HSL.out; omega), hs2])
      clear hs hs1 ht1 HS hs2
      go_wp2_with fail
      refine (HSA.out _ (Kd.C_below HRA.out HBr.out)).mono ?_
      rintro e w1 ⟨A2, c2, rfl, hc2, hC2, hb1⟩
      have HB1 := Aside0.mk (HBr.out.trans (hb1.mono HBr.out.size))
      have HC2 := Aside0.mk hC2
      clear hC2 hb1
      go_wp2_with fail
      refine (HSB.out _ (Kd.C_below HRB.out HB1.out)).mono ?_
      rintro e w2 ⟨A3, c3, rfl, hc3, hC3, hb2⟩
      have HB2' := Aside0.mk (HB1.out.trans (hb2.mono HB1.out.size))
      have HC2' := Aside0.mk (Kd.C_below HC2.out hb2)
      have HC3 := Aside0.mk hC3
      clear hC3 hb2
      go_wp2_with fail
      refine (api_Spot_21.calls 100 A2 c2 s A3 c3 t r1 _ HC2'.out hc2 HC3.out hc3 HEQ.out).mono ?_
      rintro e w3 ⟨rfl, ⟨n, rfl⟩⟩
      go_wp2
      go_ret2
      exact ⟨rfl, pw_below_drewN HB2'.out n⟩
end Go.Proofs.Ytgfkodanekfekaa.X

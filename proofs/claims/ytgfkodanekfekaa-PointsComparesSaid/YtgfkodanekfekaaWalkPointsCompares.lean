/- The law PointsCompares walked: Same answers as the reference does, for all pairs of samples. -/
import Derived.Test.YtgfkodanekfekaaWalkSame
import Derived.Test.YtgfkodanekfekaaX5
namespace Go.Proofs.Ytgfkodanekfekaa.X
open Go.RowKit Go.Proofs.YtgfkodanekfekaaW.PrintWords Go.Proofs.YtgfkodanekfekaaW.PrintLast Go.Proofs.YtgfkodanekfekaaW.PrintMore
set_option linter.unusedVariables false
set_option linter.unusedSimpArgs false
open Base (sameR rsame_f)
def metrolablaw31_PointsCompares.f (a b : List S30) : Option Bool := some true
set_option maxHeartbeats 4000000 in
set_option maxRecDepth 100000 in
theorem compares_far (A0 A1 : Option Addr) (c0 c1 : Nat) (a b : List S30) (w : World) (ha : Kd.C k30 w A0 a.length a) (hca : a.length ≤ c0) (hb : Kd.C k30 w A1 b.length b) (hcb : b.length ≤ c1) (h : ¬ (a.length ≤ 128 ∧ b.length ≤ 128)) :
    Calls Try.prog 10 #[.slice A0 a.length c0, .slice A1 b.length c1] w fun e w' => e = .returned (.bool true) ∧ Below w.heap.size w w' := by
  have HRA := Aside0.mk ha
  have HRB := Aside0.mk hb
  by_cases h1 : a.length ≤ 128
  · have HF1 := Aside0.mk (show metrolabref31_Few.f a = some true from by unfold metrolabref31_Few.f; rw [decide_eq_true (by omega)])
    have HF2 := Aside0.mk (show metrolabref31_Few.f b = some false from by unfold metrolabref31_Few.f; rw [decide_eq_false (by omega)])
    clear ha hb h h1
    go_enter Try.func10, Try.ntmps10
    go_wp2_with fail
    refine (few_below A0 c0 a true _ HRA.out hca HF1.out).mono ?_
    rintro e w1 ⟨rfl, hb1⟩
    go_wp2_with fail
    refine (few_below A1 c1 b false _ (Kd.C_below HRB.out hb1) hcb HF2.out).mono ?_
    rintro e w2 ⟨rfl, hb2⟩
    have HB := Aside0.mk (hb1.trans (hb2.mono hb1.size))
    go_wp2_with fail
    refine (metrolablaw31_awake.calls 100 true _ (Base.awake_k 100 (by omega))).mono ?_
    rintro e w3 ⟨rfl, hb3⟩
    go_wp2
    go_ret
    exact ⟨rfl, HB.out.trans (hb3.mono HB.out.size)⟩
  · have HF1 := Aside0.mk (show metrolabref31_Few.f a = some false from by unfold metrolabref31_Few.f; rw [decide_eq_false (by omega)])
    clear ha hb h h1
    go_enter Try.func10, Try.ntmps10
    go_wp2_with fail
    refine (few_below A0 c0 a false _ HRA.out hca HF1.out).mono ?_
    rintro e w1 ⟨rfl, hb1⟩
    go_wp2_with fail
    refine (metrolablaw31_awake.calls 100 true _ (Base.awake_k 100 (by omega))).mono ?_
    rintro e w3 ⟨rfl, hb3⟩
    go_wp2
    go_ret
    exact ⟨rfl, hb1.trans (hb3.mono hb1.size)⟩
set_option maxHeartbeats 4000000 in
set_option maxRecDepth 100000 in
theorem compares_near (A0 A1 : Option Addr) (c0 c1 : Nat) (a b : List S30) (w : World) (ha : Kd.C k30 w A0 a.length a) (hca : a.length ≤ c0) (hb : Kd.C k30 w A1 b.length b) (hcb : b.length ≤ c1) (h : a.length ≤ 128 ∧ b.length ≤ 128) :
    Calls Try.prog 10 #[.slice A0 a.length c0, .slice A1 b.length c1] w fun e w' => e = .returned (.bool true) ∧ Below w.heap.size w w' := by
  have HRA := Aside0.mk ha
  have HRB := Aside0.mk hb
  have HF1 := Aside0.mk (show metrolabref31_Few.f a = some true from by unfold metrolabref31_Few.f; rw [decide_eq_true (by omega)])
  have HF2 := Aside0.mk (show metrolabref31_Few.f b = some true from by unfold metrolabref31_Few.f; rw [decide_eq_true (by omega)])
  have HS := Aside0.mk (fun w ha hb => same_calls A0 A1 c0 c1 a b w ha hca hb hcb)
  have HT := Aside0.mk (rsame_f a b 6000 (Nat.le_refl _))
  obtain ⟨⟨r1, r2⟩, hr⟩ : ∃ r, sameR a b = r := ⟨_, rfl⟩
  rw [hr] at HT
  simp only [hr] at HS
  clear ha hb h hr
  go_enter Try.func10, Try.ntmps10
  go_wp2_with fail
  refine (few_below A0 c0 a true _ HRA.out hca HF1.out).mono ?_
  rintro e w1 ⟨rfl, hb1⟩
  go_wp2_with fail
  refine (few_below A1 c1 b true _ (Kd.C_below HRB.out hb1) hcb HF2.out).mono ?_
  rintro e w2 ⟨rfl, hb2⟩
  have HB := Aside0.mk (hb1.trans (hb2.mono hb1.size))
  clear hb1 hb2
  go_wp2_with fail
  refine (HS.out _ (Kd.C_below HRA.out HB.out) (Kd.C_below HRB.out HB.out)).mono ?_
  rintro e w3 ⟨rfl, hb3⟩
  have HB3 := Aside0.mk (HB.out.trans (hb3.mono HB.out.size))
  clear hb3
  go_wp2_with fail
  refine (metrolabref31_Same.calls 6000 A0 c0 a A1 c1 b r1 r2 _ (Kd.C_below HRA.out HB3.out) hca (Kd.C_below HRB.out HB3.out) hcb HT.out).mono ?_
  rintro e w4 ⟨rfl, hb4⟩
  have HB4 := Aside0.mk (HB3.out.trans (hb4.mono HB3.out.size))
  clear hb4
  have e1 : (r1 == r1) = true := beq_self_eq_true r1
  have e2 : (r2 == r2) = true := beq_self_eq_true r2
  go_wp2_with fail
  refine (metrolablaw31_awake.calls 100 true _ (Base.awake_k 100 (by omega))).mono ?_
  rintro e w5 ⟨rfl, hb5⟩
  go_wp2
  go_ret
  exact ⟨rfl, HB4.out.trans (hb5.mono HB4.out.size)⟩
theorem metrolablaw31_PointsCompares.calls (A0 : Option Addr) (c0 : Nat) (a : List S30) (A1 : Option Addr) (c1 : Nat) (b : List S30) (r : Bool) (w : World) (ha : Kd.C k30 w A0 a.length a) (hca : a.length ≤ c0) (hb : Kd.C k30 w A1 b.length b) (hcb : b.length ≤ c1) (h : metrolablaw31_PointsCompares.f a b = some r) :
    Calls Try.prog 10 #[.slice A0 a.length c0, .slice A1 b.length c1] w fun e w' => e = .returned (.bool r) ∧ Below w.heap.size w w' := by
  unfold metrolablaw31_PointsCompares.f at h
  obtain rfl := Option.some.inj h
  by_cases h : a.length ≤ 128 ∧ b.length ≤ 128
  · exact compares_near A0 A1 c0 c1 a b w ha hca hb hcb h
  · exact compares_far A0 A1 c0 c1 a b w ha hca hb hcb h
end Go.Proofs.Ytgfkodanekfekaa.X

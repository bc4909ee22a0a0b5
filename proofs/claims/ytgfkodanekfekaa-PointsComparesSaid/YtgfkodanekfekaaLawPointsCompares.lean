/- The law PointsCompares, for every input: the call returns true, and each argument reads behind the call as it read before. No condition. -/
import Derived.Test.YtgfkodanekfekaaRows
import Derived.Test.YtgfkodanekfekaaSaidPointsCompares
import Derived.Test.YtgfkodanekfekaaPurePointsCompares
import Derived.Test.YtgfkodanekfekaaOpen
import Derived.WalkKit
import Derived.ProofKit
import Derived.OpenShut
import Derived.ShutString
import Derived.ChangeOld
import Derived.Below
import Derived.SizedLaws
namespace Go.Proofs.Ytgfkodanekfekaa.pointsCompares
open Go.ChangeShapes Go.WideShapes Go.ChangeAt Go.RowKit Go.Proofs.YtgfkodanekfekaaW.PrintWords
open Go.ChangeMaps (open_string shut_string)
open Pure.PointsComparesIn
set_option linter.unusedVariables false
theorem own : ownKnob Try.prog.godebug = none := by kernel_rfl
theorem laidOut : laidOutB Try.prog = true := by kernel_rfl
theorem opens30 : Open.Opens Try.prog 30 X.k30 wf30 :=
  (Open.opens_iso (Open.opens_struct3 Try.underlying30 (by kernel_rfl) rfl rfl rfl (Open.opens_int (k := .i64) Try.underlying3 (by kernel_rfl)) (Open.opens_int (k := .i64) Try.underlying3 (by kernel_rfl)) (Open.opens_int (k := .i64) Try.underlying3 (by kernel_rfl))) _ (fun y => ⟨y.1, y.2.1, y.2.2⟩) (fun _ => rfl)).mono (fun _ h => h)
set_option maxRecDepth 100000 in
theorem lifted (os : Os) (started : os.Started) (H : Type) (enc : TypeId × Value → H) :
    ReturnsInHanded {} Try.checked os 10 .any (Rows.pointsComparesSpec.pre6 enc Try.prog Try.f10 Rows.pointsComparesRow.domain false) (Rows.pointsComparesSpec.post enc Try.prog Try.f10 false true false false) := by
  refine returnsInHanded_of_change_sized (C := Try.checked) own started (by kernel_rfl) Try.func10
    (ChangeSpec.witness6 (enc := enc) (C := Try.checked) false ⟨#[], #[.slice none 0 0, .slice none 0 0], []⟩ 8 (by kernel_rfl) (by kernel_rfl) (by kernel_rfl) (by kernel_rfl)) ?_
  intro W base args ds gs before hval0 hW hcnd hsz0 _
  have hsz : (DataW.weightsEach Try.prog (Try.f10.params.toList ++ Rows.pointsComparesSpec.plain.varTypes Try.prog) (ds ++ gs)).all (· ≤ reachBytes) = true := hsz0
  have hval : ∀ (j : Nat) t v, Try.f10.params[j]? = some t → args[j]? = some v → Value.okWide Try.prog W .any base t v := hval0
  have hW' := hW
  obtain ⟨p, q, hA0, hV, rfl, hfz, hnd⟩ := hW
  have hA : DataW.TrodAll enc Try.prog W 0 (fun _ => true) true Try.f10.params.toList args.toList ds p := hA0
  rw [Try.params10] at hA hval hsz
  obtain ⟨v0, vs0, d0, ds0, p0, q0, hargs, rfl, rfl, h0, r0⟩ := trodAll_cons hA
  obtain ⟨v1, vs1, d1, ds1, p1, q1, rfl, rfl, rfl, h1, r1⟩ := trodAll_cons r0
  obtain ⟨rfl, rfl, rfl⟩ := trodAll_nil r1
  obtain rfl : args = #[v0, v1] := by cases args; simp_all
  obtain ⟨rfl, rfl⟩ := trodVars_none hV
  obtain ⟨A0, len0, c0, rfl⟩ := okWide_slice Try.underlying22 (hval 0 22 v0 rfl rfl)
  have k0 := h0
  have lt0 : ∀ x ∈ p0, x.block < W.heap.size := by obtain ⟨m, hm⟩ := k0; exact DataW.trod_lt m _ _ _ hm
  obtain ⟨l0, rfl, hc0, C0, w0, y0⟩ := (haveI : Inhabited (X.S30) := ⟨X.z30⟩; Open.open_row Try.underlying22 opens30 (b := 24) (by kernel_rfl) h0 hsz (j := 0) rfl rfl)
  obtain ⟨A1, len1, c1, rfl⟩ := okWide_slice Try.underlying22 (hval 1 22 v1 rfl rfl)
  have k1 := h1
  have lt1 : ∀ x ∈ p1, x.block < W.heap.size := by obtain ⟨m, hm⟩ := k1; exact DataW.trod_lt m _ _ _ hm
  obtain ⟨l1, rfl, hc1, C1, w1, y1⟩ := (haveI : Inhabited (X.S30) := ⟨X.z30⟩; Open.open_row Try.underlying22 opens30 (b := 24) (by kernel_rfl) h1 hsz (j := 1) rfl rfl)
  clear hA0 hval0 hsz0 hsz
  have hk := Pure.PointsCompares l0 l1 w0 y0 w1 y1
  refine (X.metrolablaw31_PointsCompares.calls A0 c0 l0 A1 c1 l1 true W C0 hc0 C1 hc1 hk).mono fun e W' ⟨he, bel⟩ => ?_
  subst he
  exact ⟨_, rfl, _, _, _, [], _, [], hW', trodAll_mk1 (shut_bool Try.underlying4 _), (trodAll_cons_mk (Below.trod laidOut (by kernel_rfl) (of_decide_eq_true (by kernel_rfl)) k0 bel lt0) (trodAll_cons_mk (Below.trod laidOut (by kernel_rfl) (of_decide_eq_true (by kernel_rfl)) k1 bel lt1) trodAll_mk0)), rfl, bel.frame _, fun h => by cases h⟩
theorem over : Rows.pointsComparesRow.holds Try.pinned (OpenSpec.ofChange Rows.pointsComparesSpec) :=
  OpenClaim.holds_of_wide 10 Try.f10 rfl rfl rfl rfl rfl rfl rfl ⟨rfl, rfl, rfl, rfl, rfl⟩ rfl rfl rfl rfl rfl (by kernel_rfl) Try.func10 (by kernel_rfl)
    (of_decide_eq_true (by kernel_rfl)) (by unfold Func.isWrapper; first | (rw [if_pos (by decide +kernel)]; kernel_rfl) | (rw [if_neg (by decide +kernel)]; exact ⟨rfl, rfl⟩))
    (fun os started H enc _ => lifted os started H enc)
theorem proved : Rows.PointsComparesSaid := over
end Go.Proofs.Ytgfkodanekfekaa.pointsCompares
namespace Go.Proofs.Ytgfkodanekfekaa
/-- The row, under a short name, for the claim. -/
theorem pointsCompares_holds : Rows.PointsComparesSaid := pointsCompares.proved
#print axioms pointsCompares_holds
end Go.Proofs.Ytgfkodanekfekaa

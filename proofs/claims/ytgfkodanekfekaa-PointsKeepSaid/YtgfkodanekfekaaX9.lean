-- Made by wip/xprint.py for this claim: the kit's printer over the translation, with hand-proved functions in their places. Lean checks it.
import Derived.Test.YtgfkodanekfekaaX0
import Derived.Test.YtgfkodanekfekaaX3
namespace Go.Proofs.Ytgfkodanekfekaa.X
open Go.RowKit Go.Proofs.YtgfkodanekfekaaW.PrintWords Go.Proofs.YtgfkodanekfekaaW.PrintLast Go.Proofs.YtgfkodanekfekaaW.PrintMore
attribute [local go_sem] max2_int min2_int max_two min_two max_three min_three max_four min_four   -- for this text's walks alone
set_option linter.unusedVariables false
set_option linter.unusedSimpArgs false

/-! ### points_triple_mirror: function 54, proved by hand -/
-- USES points_of
/-- the sign of the coordinate along an axis changed -/
def mirrorV (axis : Int) (t : Int × Int × Int) : Int × Int × Int := if axis = 0 then (wrap64 (-t.1), t.2.1, t.2.2) else if axis = 1 then (t.1, wrap64 (-t.2.1), t.2.2) else (t.1, t.2.1, wrap64 (-t.2.2))
set_option maxHeartbeats 8000000 in
set_option maxRecDepth 100000 in
theorem mirror_calls (t : Int × Int × Int) (axis : Int) (g : Nat) (w : World) (h0 : 0 ≤ axis) (h1 : axis ≤ 2) (hb : w.heap[g]? = some (.cells (tripleCells t) 86 (0, 0))) :
    Calls Try.prog 54 #[.pointer (some ⟨g, 0, none⟩), .int .i64 axis] w fun e w' => e = .returned (.tuple #[]) ∧ w'.heap[g]? = some (.cells (tripleCells (mirrorV axis t)) 86 (0, 0)) ∧ OnlyBut w w' (fun k => k ≠ g) := by
  obtain ⟨x, y, z⟩ := t
  have hc0 : w.cell? ⟨g, 0, none⟩ = some (.int .i64 x) := (blk_cell hb 0).trans rfl
  have hc1 : w.cell? ⟨g, 1, none⟩ = some (.int .i64 y) := (blk_cell hb 1).trans rfl
  have hc2 : w.cell? ⟨g, 2, none⟩ = some (.int .i64 z) := (blk_cell hb 2).trans rfl
  have hf0 := blk_frozen hb 0
  have hf1 := blk_frozen hb 1
  have hf2 := blk_frozen hb 2
  obtain rfl | rfl | rfl : axis = 0 ∨ axis = 1 ∨ axis = 2 := by omega
  · go_enter Try.func54, Try.ntmps54
    go_region
    all_goals go_wp2
    all_goals (go_end0; exact ⟨rfl, blk_drew (blk_put (cs := #[.int .i64 x, .int .i64 y, .int .i64 z]) hb 0 _ rfl), only_drew (only_set (only_refl _ _) (fun k _ hk => hk) _)⟩)
  · go_enter Try.func54, Try.ntmps54
    go_region
    all_goals go_wp2
    all_goals (go_end0; exact ⟨rfl, blk_drew (blk_put (cs := #[.int .i64 x, .int .i64 y, .int .i64 z]) hb 1 _ rfl), only_drew (only_set (only_refl _ _) (fun k _ hk => hk) _)⟩)
  · go_enter Try.func54, Try.ntmps54
    go_region
    all_goals go_wp2
    all_goals (go_end0; exact ⟨rfl, blk_drew (blk_put (cs := #[.int .i64 x, .int .i64 y, .int .i64 z]) hb 2 _ rfl), only_drew (only_set (only_refl _ _) (fun k _ hk => hk) _)⟩)

/-! ### points_Mirror: function 19, proved by hand -/
-- USES points_each
-- USES points_triple_mirror
set_option maxHeartbeats 8000000 in
set_option maxRecDepth 100000 in
theorem Mirror1_calls (t : Int × Int × Int) (axis : Int) (g bx : Nat) (w : World) (h0 : 0 ≤ axis) (h1 : axis ≤ 2) (hb : w.heap[g]? = some (.cells (tripleCells t) 86 (0, 0))) (hx : w.heap[bx]? = some (.cells #[.int .i64 axis] 3 (0, 0))) :
    Calls Try.prog 53 #[.pointer (some ⟨g, 0, none⟩), .pointer (some ⟨bx, 0, none⟩)] w fun e w' => e = .returned (.tuple #[]) ∧ w'.heap[g]? = some (.cells (tripleCells (mirrorV axis t)) 86 (0, 0)) ∧ OnlyBut w w' (fun k => k ≠ g) := by
  have H0 := Aside0.mk hb
  have HA := Aside0.mk (show 0 ≤ axis ∧ axis ≤ 2 from ⟨h0, h1⟩)
  have hcx : w.cell? ⟨bx, 0, none⟩ = some (.int .i64 axis) := (blk_cell hx 0).trans rfl
  clear hb hx h0 h1
  go_enter Try.func53, Try.ntmps53
  go_wp2_with (go_at_call 54; refine (mirror_calls t axis g _ HA.out.1 HA.out.2 H0.out).mono ?_; rintro e w2 ⟨rfl, hg2, hon2⟩)
  go_end0
  exact ⟨rfl, hg2, hon2⟩
def points_Mirror.f (l : List S30) (a : Int) : Option (List S30 × Int) := (points_along.f l a).bind fun e => if e = 0 then some (mapT (mirrorV a) l, 0) else some ([], e)
set_option maxHeartbeats 8000000 in
set_option maxRecDepth 100000 in
theorem points_Mirror.calls (A0 : Option Addr) (c0 : Nat) (l0 : List S30) (a1 : Int) (r1 : List S30) (r2 : Int) (w : World) (hr0 : Kd.C k30 w A0 l0.length l0) (hc0 : l0.length ≤ c0) (h : points_Mirror.f l0 a1 = some (r1, r2)) :
    Calls Try.prog 19 #[.slice A0 l0.length c0, .int .i64 a1] w fun e w' => ∃ v0_ : Value, e = .returned (.tuple #[v0_, .int .i64 r2]) ∧ Kd.R k30 30 w' w.heap.size (fun _ => True) v0_ r1 ∧ Below w.heap.size w w' := by
  unfold points_Mirror.f at h
  obtain ⟨e, he, h⟩ := Option.bind_eq_some_iff.mp h
  have HR := Aside0.mk hr0
  have HE := Aside0.mk he
  have hB0 : Below w.heap.size w (w.alloc (.cells #[.int .i64 a1] 3)) := (Below.refl _ _).alloc (Nat.le_refl _) _
  have HB0 := Aside0.mk hB0
  clear hr0 he hB0
  by_cases h0 : e = 0
  · subst h0
    rw [if_pos rfl] at h
    obtain ⟨rfl, rfl⟩ := Prod.mk.inj (Option.some.inj h)
    clear h
    have HSM := Aside0.mk (small_of_along HE.out)
    have HAX := Aside0.mk (axis_of_along HE.out)
    go_enter Try.func19, Try.ntmps19
    go_wp2_with (first
      | (go_at_call 47; refine (points_along.calls A0 c0 l0 a1 0 _ (Kd.C_below HR.out HB0.out) hc0 HE.out).mono ?_; rintro e w1 ⟨rfl, hb1⟩; have HS := Aside0.mk (show w.heap.size < w1.heap.size from by have := hb1.size; rw [World.size_alloc] at this; omega); have HW := Aside0.mk (show w1.heap[w.heap.size]? = some (.cells #[.int .i64 a1] 3 (0, 0)) from (hb1.block w.heap.size (by rw [World.size_alloc]; omega)).trans (heap_alloc_new w _)); have HB1 := Aside0.mk (HB0.out.trans (hb1.mono HB0.out.size)))
      | (go_at_call 48; refine (each_calls (fun (_ : Unit) t => ((), mirrorV a1 t)) () (fun W _ => W.heap[w.heap.size]? = some (.cells #[.int .i64 a1] 3 (0, 0))) _ none #[.pointer (some ⟨w.heap.size, 0, none⟩)] Try.func53 (by kernel_rfl) rfl A0 c0 l0 w1 (fun W' hb => Kd.C_below HR.out (HB1.out.trans (hb.mono HB1.out.size))) (by have := HSM.out; omega) (Nat.le_refl _) (fun r hr => by cases hr) (fun W W' s hs hb => (hb.block _ HS.out).trans hs) HW.out (fun W s t g hg hs hh => (Mirror1_calls t a1 g w.heap.size W HAX.out.1 HAX.out.2 hh hs).mono fun e W' ⟨h1, h2, h3⟩ => ⟨h1, h2, (h3.2.2.2.2 _ (blk_lt hs) (Nat.ne_of_lt (Nat.lt_of_lt_of_le HS.out hg))).trans hs, only_mono h3 (fun k hk => hk.1)⟩)).mono ?_; rintro e w2 ⟨v, rfl, hR, _, hon⟩))
    go_ret2
    rw [eachF_map] at hR
    exact ⟨_, rfl, Kd.R_lower hR HB1.out.size, HB1.out.trans ((only_all hon).mono HB1.out.size)⟩
  · rw [if_neg h0] at h
    obtain ⟨rfl, rfl⟩ := Prod.mk.inj (Option.some.inj h)
    clear h
    have hne : (e != 0) = true := bne_iff_ne.mpr h0
    go_enter Try.func19, Try.ntmps19
    go_wp2_with (go_at_call 47; refine (points_along.calls A0 c0 l0 a1 e _ (Kd.C_below HR.out HB0.out) hc0 HE.out).mono ?_; rintro e w1 ⟨rfl, hb1⟩)
    go_ret2
    exact ⟨_, rfl, Kd.R_nil _ _ _ _ _, HB0.out.trans (hb1.mono HB0.out.size)⟩

end Go.Proofs.Ytgfkodanekfekaa.X

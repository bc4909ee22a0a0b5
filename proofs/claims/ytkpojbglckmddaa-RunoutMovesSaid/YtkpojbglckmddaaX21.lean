-- Made by wip/xprint.py for this claim: the kit's printer over the translation, with hand-proved functions in their places. Lean checks it.
import Derived.Lib.SliceRun
import Derived.Test.YtkpojbglckmddaaX0
namespace Go.Proofs.Ytkpojbglckmddaa.X
open Go.RowKit Go.Proofs.YtkpojbglckmddaaW.PrintWords Go.Proofs.YtkpojbglckmddaaW.PrintLast Go.Proofs.YtkpojbglckmddaaW.PrintMore
attribute [local go_sem] max2_int min2_int max_two min_two max_three min_three max_four min_four   -- for this text's walks alone
set_option linter.unusedVariables false
set_option linter.unusedSimpArgs false

/-! ### runout_Section: function 29, proved by hand -/
-- IMPORT Derived.Lib.SliceRun
def runout_Section.f (l : List S62) : Option (List S62) := some l
theorem clone_q : ∀ (w : World) (a : Option Addr) (n c n' c' : Nat), (binOp .eql 22 (.slice a n c) (.slice none n' c')).run Try.prog w = .ok (.bool a.isNone) w := fun w a n c n' c' => Go.Lib.run_eql_slice_nil w _ _ a n c n' c' Try.underlying22
set_option maxHeartbeats 8000000 in
set_option maxRecDepth 100000 in
theorem runout_Section.calls_ (A : Option Addr) (c : Nat) (l : List S62) (w : World) (hr : Kd.C k62 w A l.length l) (h0 : 0 < l.length) (hl : l.length ≤ 100000) :
    Calls Try.prog 29 #[.slice A l.length c] w fun e w' => ∃ g c' cur, e = .returned (.slice (some ⟨g, 0, none⟩) l.length c') ∧ l.length ≤ c' ∧ w.heap.size ≤ g ∧ w'.heap[g]? = some (.cells cur 62 (0, 0)) ∧ l.length * 2 ≤ cur.size ∧ Kd.C k62 w' (some ⟨g, 0, none⟩) l.length l ∧ (∀ ad j, A = some ad → j < l.length * 2 → w'.cell? ⟨g, j, none⟩ = w.cell? (ad.add j)) ∧ Below w.heap.size w w' := by
  obtain ⟨ad, rfl, _⟩ := hr.2.2 h0
  obtain ⟨inner, hrep, hcell⟩ := ReadsRow.inner_ hr
  have hil : inner.length = l.length * 2 := hrep.1
  have HR := Aside0.mk hrep
  have HC := Aside0.mk hcell
  have H1 : Aside0 (∀ u ∈ inner, u.oneCell' = true) := Aside0.mk fun u hu => by
    obtain ⟨j, hj, rfl⟩ := List.getElem_of_mem hu
    have hjl : j / 2 < l.length := by omega
    have := hrep.2 (j / 2) _ (List.getElem?_eq_getElem hjl)
    refine Kd.K_one _ this _ ?_
    rw [List.mem_iff_getElem?]
    refine ⟨j % 2, ?_⟩
    show (List.take 2 (List.drop (j / 2 * 2) inner))[j % 2]? = _
    rw [List.getElem?_take_of_lt (Nat.mod_lt _ (by decide)), List.getElem?_drop, show j / 2 * 2 + j % 2 = j by omega, List.getElem?_eq_getElem hj]
  clear hrep hcell hr
  go_enter Try.func29, Try.ntmps29
  have q := clone_q
  obtain ⟨i0, hi, hz0, hz1, hz2⟩ := info_parts info62
  have HO := Aside0.mk (show (w.alloc (.cells #[] 62)).ownsRow w.heap.size 62 2 (.slice (some ⟨w.heap.size, 0, none⟩) 0 0) 0 [] from World.ownsRow_made w #[] 0 (Nat.le_refl _) (Nat.zero_le _) rfl)
  have HN := Aside0.mk (show ∀ j u, inner[j]? = some u → (w.alloc (.cells #[] 62)).cell? (ad.add j) = some u from fun j u hu => xl_cell_alloc _ (HC.out j u hu))
  go_wp2_with (at_builtin; refine wpList_append_own _ rfl (.tmp 5) (.tmp 6) 22 rfl w.heap.size 62 i0 (.agg #[(.int .i64 0), (.slice none 0 0)]) 2 32 Try.underlying22 hi hz0 hz1 hz2 rfl (by decide) (.slice (some ⟨w.heap.size, 0, none⟩) 0 0) 0 [] rfl HO.out ad l.length c inner rfl hil HN.out H1.out (by unfold maxLen; omega) (by omega) (by simp) ?_)
  intro v' w1 hown hgrow hnil
  go_wp2
  go_ret
  obtain ⟨_, h2⟩ := hown
  try simp only [Nat.zero_add, List.nil_append] at h2
  rcases h2 with ⟨_, h2⟩ | ⟨g, cap, cur, rfl, hg, hh, h3, h4, h5, h6⟩
  · omega
  have hbl : Below w.heap.size w w1 := ((Below.refl _ w).alloc (Nat.le_refl _) _).grown hgrow (by simp) (by intro k hk; simp [Value.ownBlock] at hk; omega)
  refine ⟨g, cap, cur, rfl, h3, hg, hh, by omega, ⟨rfl, by unfold maxLen at h4; omega, fun _ => ⟨_, rfl, fun j p hp => ⟨(inner.drop (j * 2)).take 2, ?_, Kd.K_below _ hbl (HR.out.2 j p hp), fun i u hu => ?_⟩⟩⟩, fun ad' j he hj => ?_, hbl⟩
  · have hj := (List.getElem?_eq_some_iff.1 hp).1
    show _ = 2
    rw [List.length_take, List.length_drop]
    omega
  · have hi : i < 2 := by
      have := (List.getElem?_eq_some_iff.1 hu).1
      rw [List.length_take] at this
      omega
    rw [List.getElem?_take_of_lt hi, List.getElem?_drop, ← h6] at hu
    have hlt : j * 2 + i < l.length * 2 := by
      have := (List.getElem?_eq_some_iff.1 hu).1
      rw [List.length_take] at this
      omega
    rw [List.getElem?_take_of_lt hlt] at hu
    refine (show w1.cell? ((⟨g, 0, none⟩ : Addr).add (j * 2 + i)) = _ from ?_)
    rw [show (⟨g, 0, none⟩ : Addr).add (j * 2 + i) = ⟨g, j * 2 + i, none⟩ by simp [Addr.add]; intros; omega]
    rw [blk_cell hh (j * 2 + i), ← hu, Array.getElem?_toList]
  · obtain rfl := Option.some.inj he
    have hjl : j < inner.length := by rw [hil]; exact hj
    rw [HC.out j _ (List.getElem?_eq_getElem hjl), blk_cell hh j, ← Array.getElem?_toList]
    have h7 : inner[j]? = cur.toList[j]? := by rw [← h6, List.getElem?_take_of_lt hj]
    rw [← h7, List.getElem?_eq_getElem hjl]

end Go.Proofs.Ytkpojbglckmddaa.X

/- slices.Insert at two cells (by its contract on the shelf) and points.Lift walked. -/
import Derived.Test.YtgfkodanekfekaaBaseLite
import Derived.Test.YtgfkodanekfekaaLaid2
import Derived.Test.YtgfkodanekfekaaX13
import Derived.Test.YtgfkodanekfekaaX3
namespace Go.Proofs.Ytgfkodanekfekaa.X
open Go.RowKit Go.Proofs.YtgfkodanekfekaaW.PrintWords Go.Proofs.YtgfkodanekfekaaW.PrintLast Go.Proofs.YtgfkodanekfekaaW.PrintMore
set_option linter.unusedVariables false
set_option linter.unusedSimpArgs false
/-- the coordinates of the spot that is flattened to a point -/
def liftV (axis at_ x y : Int) : Int × Int × Int := if axis = 0 then (at_, x, y) else if axis = 1 then (x, at_, y) else (x, y, at_)
/-- three cells of a row, as the coordinates are -/
def Cells3 (w : World) (g : Nat) (t : Int × Int × Int) : Prop := w.cell? ⟨g, 0, none⟩ = some (.int .i64 t.1) ∧ w.cell? ⟨g, 1, none⟩ = some (.int .i64 t.2.1) ∧ w.cell? ⟨g, 2, none⟩ = some (.int .i64 t.2.2)
theorem zeros_size (n : Nat) : (Builtin.zeroCells (Value.int .i64 0).cells n).size = n := by
  unfold Builtin.zeroCells
  rw [Array.size_map, Array.size_range]
  exact Nat.mul_one n
theorem insert_calls (x y a axis : Int) (g0 g1 : Nat) (w : World) (h0 : 0 ≤ axis) (h2 : axis ≤ 2) (hb0 : w.heap[g0]? = some (.cells #[.int .i64 x, .int .i64 y] 3 (0, 0))) (hb1 : w.heap[g1]? = some (.cells #[.int .i64 a] 3 (0, 0))) :
    Calls Try.prog 65 #[.slice (some ⟨g0, 0, none⟩) 2 2, .int .i64 axis, .slice (some ⟨g1, 0, none⟩) 1 1] w fun e w' => ∃ g c, e = .returned (.slice (some ⟨g, 0, none⟩) 3 c) ∧ Cells3 w' g (liftV axis a x y) ∧ Below w.heap.size w w' := by
  have hcs : ∀ j v, ([.int .i64 x, .int .i64 y] : List Value)[j]? = some v → w.cell? ⟨g0, 0 + j, none⟩ = some v := fun j v hv => by
    rw [Nat.zero_add]; exact (blk_cell hb0 j).trans (by simpa using hv)
  have hvs : ∀ j v, ([.int .i64 a] : List Value)[j]? = some v → w.cell? ⟨g1, 0 + j, none⟩ = some v := fun j v hv => by
    rw [Nat.zero_add]; exact (blk_cell hb1 j).trans (by simpa using hv)
  have h1v : ∀ v ∈ ([.int .i64 a] : List Value), v.oneCell' = true := by simp [Value.oneCell']
  have h1c : ∀ v ∈ ([.int .i64 x, .int .i64 y] : List Value), v.oneCell' = true := by simp [Value.oneCell']
  by_cases e2 : axis = 2
  · subst e2
    have hcon := Any2.slices_Insert_int_end_grow Try.insertInt (some ⟨g0, 0, none⟩) 2 2 g1 0 1 1 [.int .i64 x, .int .i64 y] [.int .i64 a] w (by decide) (by decide) (by decide) (by decide) rfl rfl (fun h => by cases h) (fun ad had j v hv => by
      obtain rfl := Option.some.inj had
      have := hcs j v hv
      rw [Nat.zero_add] at this
      rw [add_plain]; exact this) hvs h1v
    change Calls Try.prog 65 _ _ _ at hcon
    refine hcon.mono fun e w' ⟨he, hw⟩ => ?_
    subst hw
    have hn := heap_alloc_new w.drew (.cells (([.int .i64 x, .int .i64 y] ++ [.int .i64 a] : List Value).toArray ++ Builtin.zeroCells (Value.int .i64 0).cells (grownCap w (2 + 1) 2 3 - (2 + 1))) 3)
    refine ⟨w.heap.size, _, he, ?_, (below_drew1 (Below.refl _ _)).alloc (Nat.le_refl _) _⟩
    unfold Cells3 liftV
    exact ⟨(blk_cell hn 0).trans (by rw [Array.getElem?_append_left (by simp)]; rfl), (blk_cell hn 1).trans (by rw [Array.getElem?_append_left (by simp)]; rfl), (blk_cell hn 2).trans (by rw [Array.getElem?_append_left (by simp)]; rfl)⟩
  · obtain ⟨i, hi, hi2⟩ : ∃ i : Nat, axis = (i : Int) ∧ i < 2 := ⟨axis.toNat, by omega, by omega⟩
    subst hi
    have hcon := Any2.slices_Insert_int_grow Try.insertInt g0 0 2 2 i g1 0 1 1 [.int .i64 x, .int .i64 y] [.int .i64 a] w hi2 (by decide) (by decide) (by decide) (by decide) rfl rfl hcs hvs h1c h1v
    change Calls Try.prog 65 _ _ _ at hcon
    refine hcon.mono fun e w' ⟨he, hw⟩ => ?_
    obtain ⟨Z, hZ⟩ : ∃ Z, Z = Builtin.zeroCells (Value.int .i64 0).cells (grownCap w (2 + 1) 2 3 - (2 + 1)) := ⟨_, rfl⟩
    obtain ⟨A, hA⟩ : ∃ A, A = ((([.int .i64 x, .int .i64 y] : List Value).take i).toArray ++ Builtin.zeroCells (Value.int .i64 0).cells (2 + 1 - i) ++ Z) := ⟨_, rfl⟩
    have hAs : 3 ≤ A.size := by rw [hA, Array.size_append, Array.size_append, zeros_size]; simp; omega
    have hne : A ≠ #[] := fun h => by rw [h] at hAs; simp at hAs
    have hn : (w.alloc (.cells A 3)).drew.heap[w.heap.size]? = some (.cells A 3 (0, 0)) := heap_alloc_new w _
    have hB0 : Below w.heap.size w (w.alloc (.cells A 3)).drew := below_drew1 ((Below.refl _ _).alloc (Nat.le_refl _) _)
    have hsz : w.heap.size < (w.alloc (.cells A 3)).drew.heap.size := by show w.heap.size < (w.alloc (.cells A 3)).heap.size; rw [World.size_alloc]; omega
    obtain rfl | rfl : i = 0 ∨ i = 1 := by omega
    · have hw2 : w' = (((((w.alloc (.cells A 3)).drew.setCell ⟨w.heap.size, 0, none⟩ (.int .i64 a)).drew).setCell ⟨w.heap.size, 1, none⟩ (.int .i64 x)).setCell ⟨w.heap.size, 2, none⟩ (.int .i64 y)) := by rw [hw, hA, hZ]; rfl
      have hp := blk_put (blk_put (blk_drew (blk_put hn 0 (.int .i64 a) rfl)) 1 (.int .i64 x) rfl) 2 (.int .i64 y) rfl
      rw [← hw2] at hp
      refine ⟨w.heap.size, _, he, ?_, ?_⟩
      · unfold Cells3 liftV
        refine ⟨(blk_cell hp 0).trans ?_, (blk_cell hp 1).trans ?_, (blk_cell hp 2).trans ?_⟩ <;> (simp [Array.getElem?_setIfInBounds, hne]; try omega)
      · rw [hw2]
        exact below_set (below_set (below_drew1 (below_set hB0 (Nat.le_refl _))) (Nat.le_refl _)) (Nat.le_refl _)
    · have h0 : A[0]? = some (.int .i64 x) := by
        rw [hA, Array.append_assoc, Array.getElem?_append_left (by simp)]; rfl
      have hw2 : w' = ((((w.alloc (.cells A 3)).drew.setCell ⟨w.heap.size, 1, none⟩ (.int .i64 a)).drew).setCell ⟨w.heap.size, 2, none⟩ (.int .i64 y)) := by rw [hw, hA, hZ]; rfl
      have hp := blk_put (blk_drew (blk_put hn 1 (.int .i64 a) rfl)) 2 (.int .i64 y) rfl
      rw [← hw2] at hp
      refine ⟨w.heap.size, _, he, ?_, ?_⟩
      · unfold Cells3 liftV
        refine ⟨(blk_cell hp 0).trans ?_, (blk_cell hp 1).trans ?_, (blk_cell hp 2).trans ?_⟩ <;> (simp [Array.getElem?_setIfInBounds, h0]; try omega)
      · rw [hw2]
        exact below_set (below_drew1 (below_set hB0 (Nat.le_refl _))) (Nat.le_refl _)
theorem array_at (g c : Nat) (W : World) : (Instr.arrayAt 86 (.slice (some ⟨g, 0, none⟩) 3 c)).run Try.prog W = .ok (.pointer (some ⟨g, 0, none⟩)) W := by
  simp [Instr.arrayAt, run_underlying (show Try.prog.underlying 86 = some (.array 3 3) from by kernel_rfl), go_sem]
def chkP (l : List S46) : Int := if l.length > 64 then 5 else allPoint l
theorem pcheck_f (l : List S46) : vector_Check.f l = some (chkP l) := rfl
def liftL (axis a : Int) (l : List S46) : List S30 := l.map fun p => ⟨(liftV axis a p.f0 p.f1).1, (liftV axis a p.f0 p.f1).2.1, (liftV axis a p.f0 p.f1).2.2⟩
/-- what Lift returns -/
def liftR (l : List S46) (axis a : Int) : List S30 × Int := if chkP l = 0 then (if 0 ≤ axis ∧ axis ≤ 2 then (if a < -100000 ∨ 100000 < a then ([], 2) else (liftL axis a l, 0)) else ([], 1)) else ([], chkP l)
theorem liftL_len (axis a : Int) (l : List S46) : (liftL axis a l).length = l.length := by unfold liftL; exact List.length_map _
set_option maxHeartbeats 4000000 in
set_option maxRecDepth 100000 in
theorem lift_bad (A0 : Option Addr) (c0 : Nat) (l0 : List S46) (axis a e : Int) (w : World) (hr0 : Kd.C k46 w A0 l0.length l0) (hc0 : l0.length ≤ c0) (he : chkP l0 = e) (hz : e ≠ 0) :
    Calls Try.prog 27 #[.slice A0 l0.length c0, .int .i64 axis, .int .i64 a] w fun e_ w' => e_ = .returned (.tuple #[.slice none 0 0, .int .i64 e]) ∧ Below w.heap.size w w' := by
  have HR := Aside0.mk hr0
  have HV := Aside0.mk (show vector_Check.f l0 = some e from by rw [pcheck_f, he])
  have hne : (e != 0) = true := bne_iff_ne.mpr hz
  clear hr0 he hz
  go_enter Try.func27, Try.ntmps27
  go_wp2_with fail
  refine (vector_Check.calls A0 c0 l0 e _ HR.out hc0 HV.out).mono ?_
  rintro e w1 ⟨rfl, hb1⟩
  go_wp2
  go_ret2
  exact ⟨rfl, hb1⟩
set_option maxHeartbeats 4000000 in
set_option maxRecDepth 100000 in
theorem lift_axis (A0 : Option Addr) (c0 : Nat) (l0 : List S46) (axis a : Int) (w : World) (hr0 : Kd.C k46 w A0 l0.length l0) (hc0 : l0.length ≤ c0) (he : chkP l0 = 0) (hz : ¬ (0 ≤ axis ∧ axis ≤ 2)) :
    Calls Try.prog 27 #[.slice A0 l0.length c0, .int .i64 axis, .int .i64 a] w fun e_ w' => e_ = .returned (.tuple #[.slice none 0 0, .int .i64 1]) ∧ Below w.heap.size w w' := by
  have HR := Aside0.mk hr0
  have HV := Aside0.mk (show vector_Check.f l0 = some 0 from by rw [pcheck_f, he])
  have HX := Aside0.mk (show points_axes.f axis = some 1 from by
    unfold points_axes.f
    by_cases h : axis < 0
    · rw [if_pos h]
    · rw [if_neg h, if_pos (by omega)])
  clear hr0 he hz
  go_enter Try.func27, Try.ntmps27
  go_wp2_with fail
  refine (vector_Check.calls A0 c0 l0 0 _ HR.out hc0 HV.out).mono ?_
  rintro e w1 ⟨rfl, hb1⟩
  go_wp2_with fail
  refine (points_axes.calls axis 1 _ HX.out).mono ?_
  rintro e w2 ⟨rfl, ⟨n, rfl⟩⟩
  go_wp2
  go_ret2
  exact ⟨rfl, pw_below_drewN hb1 n⟩
theorem axes_good {axis : Int} (h0 : 0 ≤ axis) (h2 : axis ≤ 2) : points_axes.f axis = some 0 := by
  unfold points_axes.f
  rw [if_neg (by omega), if_neg (by omega)]
set_option maxHeartbeats 4000000 in
set_option maxRecDepth 100000 in
theorem lift_range (A0 : Option Addr) (c0 : Nat) (l0 : List S46) (axis a : Int) (w : World) (hr0 : Kd.C k46 w A0 l0.length l0) (hc0 : l0.length ≤ c0) (he : chkP l0 = 0) (h0 : 0 ≤ axis) (h2 : axis ≤ 2) (ha : a < -100000 ∨ 100000 < a) :
    Calls Try.prog 27 #[.slice A0 l0.length c0, .int .i64 axis, .int .i64 a] w fun e_ w' => e_ = .returned (.tuple #[.slice none 0 0, .int .i64 2]) ∧ Below w.heap.size w w' := by
  have HR := Aside0.mk hr0
  have HV := Aside0.mk (show vector_Check.f l0 = some 0 from by rw [pcheck_f, he])
  have HX := Aside0.mk (axes_good h0 h2)
  clear hr0 he h0 h2
  by_cases h1 : a < -100000
  · have d1 : decide (a < -100000) = true := decide_eq_true h1
    clear ha h1
    go_enter Try.func27, Try.ntmps27
    go_wp2_with fail
    refine (vector_Check.calls A0 c0 l0 0 _ HR.out hc0 HV.out).mono ?_
    rintro e w1 ⟨rfl, hb1⟩
    go_wp2_with fail
    refine (points_axes.calls axis 0 _ HX.out).mono ?_
    rintro e w2 ⟨rfl, ⟨n, rfl⟩⟩
    go_wp2
    go_ret2
    exact ⟨rfl, pw_below_drewN hb1 n⟩
  · have d1 : decide (a < -100000) = false := decide_eq_false h1
    have d2 : decide (100000 < a) = true := decide_eq_true (by omega)
    clear ha h1
    go_enter Try.func27, Try.ntmps27
    go_wp2_with fail
    refine (vector_Check.calls A0 c0 l0 0 _ HR.out hc0 HV.out).mono ?_
    rintro e w1 ⟨rfl, hb1⟩
    go_wp2_with fail
    refine (points_axes.calls axis 0 _ HX.out).mono ?_
    rintro e w2 ⟨rfl, ⟨n, rfl⟩⟩
    go_wp2
    go_ret2
    exact ⟨rfl, pw_below_drewN hb1 n⟩
set_option maxHeartbeats 8000000 in
set_option maxRecDepth 100000 in
theorem lift_good (A0 : Option Addr) (c0 : Nat) (l0 : List S46) (axis a : Int) (w : World) (hr0 : Kd.C k46 w A0 l0.length l0) (hc0 : l0.length ≤ c0) (he : chkP l0 = 0) (h0 : 0 ≤ axis) (h2 : axis ≤ 2) (ha : ¬ (a < -100000 ∨ 100000 < a)) :
    Calls Try.prog 27 #[.slice A0 l0.length c0, .int .i64 axis, .int .i64 a] w fun e w' => ∃ v0_ : Value, e = .returned (.tuple #[v0_, .int .i64 0]) ∧ Kd.R k30 30 w' w.heap.size (fun _ => True) v0_ (liftL axis a l0) ∧ Below w.heap.size w w' := by
  have HR := Aside0.mk hr0
  have HV := Aside0.mk (show vector_Check.f l0 = some 0 from by rw [pcheck_f, he])
  have HX := Aside0.mk (axes_good h0 h2)
  have HSM := Aside0.mk (show l0.length ≤ 64 from by unfold chkP at he; split at he <;> omega)
  have HAX := Aside0.mk (And.intro h0 h2)
  have d1 : decide (a < -100000) = false := decide_eq_false (by omega)
  have d2 : decide (100000 < a) = false := decide_eq_false (by omega)
  clear hr0 he h0 h2 ha
  go_enter Try.func27, Try.ntmps27
  go_wp2_with fail
  refine (vector_Check.calls A0 c0 l0 0 _ HR.out hc0 HV.out).mono ?_
  rintro e w1 ⟨rfl, hb1⟩
  go_wp2_with fail
  refine (points_axes.calls axis 0 _ HX.out).mono ?_
  rintro e w2 ⟨rfl, ⟨n, rfl⟩⟩
  have HB1 := Aside0.mk (pw_below_drewN hb1 n)
  clear hb1
  go_wp2
  clear d1 d2
  go_loopw [10, 32] (fun v10 v32 wr => ∃ i : Nat, i ≤ l0.length ∧ v32 = .int .i64 i ∧ Aside0 (Kd.R k30 30 wr w.heap.size (fun _ => True) v10 (liftL axis a (l0.take i))) ∧ Aside0 (Below w.heap.size w wr)) (fun _ v32 _ => l0.length - (intOf v32).toNat)
  case atStart => exact ⟨0, Nat.zero_le _, rfl, ⟨Kd.R_nil _ _ _ _ _⟩, HB1⟩
  case round =>
    clear HB1
    obtain ⟨i, hi, rfl, HO, HB⟩ := hrel
    have hsm : (i : Int) ≤ 64 := by have := HSM.out; omega
    by_cases hlt : i < l0.length
    · obtain ⟨ad, rfl, q1, q2⟩ := at_T46 (Kd.C_below HR.out HB.out) i (by omega) (by omega)
      simp only [Int.toNat_natCast] at q1 q2
      obtain ⟨p, hp⟩ : ∃ p, p = rd_T46 l0 i := ⟨_, rfl⟩
      rw [← hp] at q1 q2
      have HP := Aside0.mk hp
      clear hp
      obtain ⟨t0, t1, t2, ht⟩ : ∃ t0 t1 t2, liftV axis a p.f0 p.f1 = (t0, t1, t2) := ⟨_, _, _, rfl⟩
      obtain ⟨acc, hacc⟩ : ∃ x, x = liftL axis a (l0.take i) := ⟨_, rfl⟩
      have HLA := Aside0.mk (show acc.length ≤ 64 from by rw [hacc, liftL_len, List.length_take]; omega)
      rw [← hacc] at HO
      have HEQ := Aside0.mk (show liftL axis a (l0.take (i + 1)) = acc ++ [⟨t0, t1, t2⟩] from by
        have hg : rd_T46 l0 i = l0[i] := by unfold rd_T46; rw [Int.toNat_natCast, List.getD_eq_getElem?_getD, List.getElem?_eq_getElem hlt]; rfl
        rw [List.take_succ_eq_append_getElem hlt, hacc]
        unfold liftL
        rw [List.map_append, List.map_singleton, ← hg, ← HP.out, ht])
      have HIN := Aside0.mk (fun g0 g1 W hb0 hb1 => insert_calls p.f0 p.f1 a axis g0 g1 W HAX.out.1 HAX.out.2 hb0 hb1)
      simp only [ht] at HIN
      have hW := HB.out.size
      have k1 := heap_alloc_new (wr.alloc (.cells #[.int .i64 p.f0, .int .i64 p.f1] 46)) (.cells #[.int .i64 p.f0, .int .i64 p.f1] 3)
      have k2 := heap_alloc_new ((wr.alloc (.cells #[.int .i64 p.f0, .int .i64 p.f1] 46)).alloc (.cells #[.int .i64 p.f0, .int .i64 p.f1] 3)) (.cells #[.int .i64 a] 3)
      have K1 := Aside0.mk (blk_alloc k1 (.cells #[.int .i64 a] 3))
      have K2 := Aside0.mk k2
      simp only [World.size_alloc] at K1 K2
      have B1 := HB.out.alloc hW (.cells #[.int .i64 p.f0, .int .i64 p.f1] 46)
      have B2 := B1.alloc (by rw [World.size_alloc]; omega) (.cells #[.int .i64 p.f0, .int .i64 p.f1] 3)
      have B3 := Aside0.mk (B2.alloc (by rw [World.size_alloc, World.size_alloc]; omega) (.cells #[.int .i64 a] 3))
      have O3 := Aside0.mk (Kd.R_alloc (Kd.R_alloc (Kd.R_alloc HO.out (.cells #[.int .i64 p.f0, .int .i64 p.f1] 46)) (.cells #[.int .i64 p.f0, .int .i64 p.f1] 3)) (.cells #[.int .i64 a] 3))
      clear hacc ht k1 k2 B1 B2 HO HB hW
      go_wp2_with fail
      refine (HIN.out _ _ _ K1.out K2.out).mono ?_
      rintro e w3 ⟨g, c, rfl, ⟨z0, z1, z2⟩, hb3⟩
      have B4 := Aside0.mk (B3.out.trans (hb3.mono B3.out.size))
      have O4 := Aside0.mk (Kd.R_below O3.out hb3)
      clear hb3 O3 B3 K1 K2 HIN
      have hW := B4.out.size
      have X4 := Aside0.mk (heap_alloc_new w3 (.cells #[.int .i64 t0, .int .i64 t1, .int .i64 t2] 86))
      have B5 := Aside0.mk (B4.out.alloc hW (.cells #[.int .i64 t0, .int .i64 t1, .int .i64 t2] 86))
      have O5 := Aside0.mk (Kd.R_alloc O4.out (.cells #[.int .i64 t0, .int .i64 t1, .int .i64 t2] 86))
      clear B4 O4 hW
      have hat := array_at g c w3
      go_wp2_with fail
      refine (spot_calls t0 t1 t2 w3.heap.size _ X4.out).mono ?_
      rintro e w4 ⟨rfl, hb4⟩
      have B6 := Aside0.mk (B5.out.trans (hb4.mono B5.out.size))
      have O6 := Aside0.mk (Kd.R_below O5.out hb4)
      clear hb4 B5 O5 X4
      go_wp2_with (at_builtin; refine Kd.R_append k30 (w0 := w) w.heap.size rfl (.tmp 47) (.tmp 49) 22 30 (.agg #[(.int .i64 0), (.int .i64 0), (.int .i64 0)]) 24 rfl Try.underlying22 info30 rfl (by decide) (by omega) _ acc (⟨t0, t1, t2⟩ : S30) [.int .i64 t0, .int .i64 t1, .int .i64 t2] (fun _ => True) (fun _ => False) rfl rfl ?aP (fun _ hk => hk.elim) ?aF ?aO ?aB ?aS ?aL ?_; (case aP => exact k30_mkM _ _ _ (⟨t0, t1, t2⟩ : S30)); (case aB => exact B6.out); (case aF => exact (fun _ _ => trivial)); (case aO => exact O6.out); (case aS => exact B6.out.size); (case aL => (have := HLA.out; omega)); intro v1 w6 ho6 hb6 _ _)
      go_roundw
      case rel => exact ⟨i + 1, by omega, by go_num, ⟨by rw [HEQ.out]; exact ho6⟩, ⟨hb6⟩⟩
      case measure => simp [intOf]; omega
    · go_wp2
      go_ret2
      have e : l0.take i = l0 := List.take_of_length_le (by omega)
      rw [e] at HO
      exact ⟨_, rfl, HO.out, HB.out⟩
theorem plift_calls (A0 : Option Addr) (c0 : Nat) (l0 : List S46) (axis a : Int) (w : World) (hr0 : Kd.C k46 w A0 l0.length l0) (hc0 : l0.length ≤ c0) :
    Calls Try.prog 27 #[.slice A0 l0.length c0, .int .i64 axis, .int .i64 a] w fun e w' => ∃ A c, e = .returned (.tuple #[.slice A (liftR l0 axis a).1.length c, .int .i64 (liftR l0 axis a).2]) ∧ (liftR l0 axis a).1.length ≤ c ∧ Kd.C k30 w' A (liftR l0 axis a).1.length (liftR l0 axis a).1 ∧ Below w.heap.size w w' := by
  unfold liftR
  by_cases hz : chkP l0 = 0
  · rw [if_pos hz]
    by_cases hx : 0 ≤ axis ∧ axis ≤ 2
    · rw [if_pos hx]
      by_cases ha : a < -100000 ∨ 100000 < a
      · rw [if_pos ha]
        exact (lift_range A0 c0 l0 axis a w hr0 hc0 hz hx.1 hx.2 ha).mono fun e w' ⟨he, hb⟩ => ⟨none, 0, he, Nat.le_refl _, Kd.C_nil _ _, hb⟩
      · rw [if_neg ha]
        exact (lift_good A0 c0 l0 axis a w hr0 hc0 hz hx.1 hx.2 ha).mono fun e w' ⟨v, he, ho, hb⟩ => by
          obtain ⟨A, c, rfl, hc, hC⟩ := Kd.R_reads ho
          exact ⟨A, c, he, hc, hC, hb⟩
    · rw [if_neg hx]
      exact (lift_axis A0 c0 l0 axis a w hr0 hc0 hz hx).mono fun e w' ⟨he, hb⟩ => ⟨none, 0, he, Nat.le_refl _, Kd.C_nil _ _, hb⟩
  · rw [if_neg hz]
    exact (lift_bad A0 c0 l0 axis a _ w hr0 hc0 rfl hz).mono fun e w' ⟨he, hb⟩ => ⟨none, 0, he, Nat.le_refl _, Kd.C_nil _ _, hb⟩
theorem liftR_len (l : List S46) (axis a : Int) : (liftR l axis a).1.length ≤ 64 := by
  unfold liftR
  split
  · rename_i h
    split
    · split
      · simp
      · simp only [liftL_len]; unfold chkP at h; split at h <;> omega
    · simp
  · simp
theorem equal_lift {A A' : Option Addr} {c c' : Nat} {l : List S30} {w : World} (hr : Kd.C k30 w A l.length l) (hc : l.length ≤ c) (hr' : Kd.C k30 w A' l.length l) (hc' : l.length ≤ c') (hl : l.length ≤ 64) :
    Calls Try.prog 21 #[.slice A l.length c, .slice A' l.length c'] w fun e w' => e = .returned (.bool true) ∧ Below w.heap.size w w' :=
  (api_Spot_21.calls 100 A c l A' c' l true w hr hc hr' hc' (by rw [Base.eq30_f l l (by omega) 100 (by omega)]; simp)).mono fun e w' ⟨he, hb⟩ => by
    obtain ⟨n, rfl⟩ := hb
    exact ⟨he, pw_below_drewN (Below.refl _ _) n⟩
end Go.Proofs.Ytgfkodanekfekaa.X

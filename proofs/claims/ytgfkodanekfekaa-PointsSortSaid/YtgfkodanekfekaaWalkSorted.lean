/- points.sorted walked: the different spots in ascending order; slices.SortFunc by its contract on the shelf. -/
import Derived.Test.YtgfkodanekfekaaLaid
import Derived.Test.YtgfkodanekfekaaX4
import Derived.Test.YtgfkodanekfekaaX3
import Derived.Deep.RegionHeld3
namespace Go.Proofs.Ytgfkodanekfekaa.X
open Go.RowKit Go.Proofs.YtgfkodanekfekaaW.PrintWords Go.Proofs.YtgfkodanekfekaaW.PrintLast Go.Proofs.YtgfkodanekfekaaW.PrintMore
set_option linter.unusedVariables false
set_option linter.unusedSimpArgs false
theorem sort_grow3 (W : World) (a b c : Obj) : (((W.alloc a).alloc b).drew.alloc c) = Sort.grow (W.drewN 1) (#[a] ++ #[b] ++ #[c]) := by
  rw [← Sort.grow_grow, ← Sort.grow_grow, ← Sort.alloc_eq_grow, ← Sort.alloc_eq_grow, ← Sort.alloc_eq_grow]
  rfl
def cmpI (x y : Int) : Int := if x < y then -1 else if y < x then 1 else 0
def or3 (a b c : Int) : Int := if a = 0 then (if b = 0 then c else b) else a
theorem or3_a {a b c : Int} (h : ¬ a = 0) : or3 a b c = a := by unfold or3; rw [if_neg h]
theorem or3_b {a b c : Int} (h : a = 0) (h2 : ¬ b = 0) : or3 a b c = b := by unfold or3; rw [if_pos h, if_neg h2]
theorem or3_c {a b c : Int} (h : a = 0) (h2 : b = 0) : or3 a b c = c := by unfold or3; rw [if_pos h, if_pos h2]
def cmpS (p q : S30) : Int := or3 (cmpI p.f0 q.f0) (cmpI p.f1 q.f1) (cmpI p.f2 q.f2)
set_option maxHeartbeats 2000000 in
theorem isNaN_calls (x : Int) (w : World) : Calls Try.prog 99 #[.int .i64 x] w fun e w' => e = .returned (.bool false) ∧ w = w' := by
  go_enter Try.func99, Try.ntmps99
  go_wp2
  go_ret
  exact ⟨by simp, rfl⟩
set_option maxHeartbeats 2000000 in
theorem compare_calls (x y : Int) (w : World) : Calls Try.prog 91 #[.int .i64 x, .int .i64 y] w fun e w' => e = .returned (.int .i64 (cmpI x y)) ∧ w = w' := by
  unfold cmpI
  by_cases h1 : x < y
  · have d1 : decide (x < y) = true := decide_eq_true h1
    rw [if_pos h1]
    clear h1
    go_enter Try.func91, Try.ntmps91
    go_wp2_with (go_at_call 99; refine (isNaN_calls _ _).mono ?_; rintro e w' ⟨rfl, rfl⟩)
    go_ret
    exact ⟨rfl, rfl⟩
  · have d1 : decide (x < y) = false := decide_eq_false h1
    rw [if_neg h1]
    clear h1
    by_cases h2 : y < x
    · have d2 : decide (y < x) = true := decide_eq_true h2
      rw [if_pos h2]
      clear h2
      go_enter Try.func91, Try.ntmps91
      go_wp2_with (go_at_call 99; refine (isNaN_calls _ _).mono ?_; rintro e w' ⟨rfl, rfl⟩)
      go_ret
      exact ⟨rfl, rfl⟩
    · have d2 : decide (y < x) = false := decide_eq_false h2
      rw [if_neg h2]
      clear h2
      go_enter Try.func91, Try.ntmps91
      go_wp2_with (go_at_call 99; refine (isNaN_calls _ _).mono ?_; rintro e w' ⟨rfl, rfl⟩)
      go_ret
      exact ⟨rfl, rfl⟩
set_option maxHeartbeats 2000000 in
theorem or_calls (a b c : Int) (g : Nat) (w : World) (h0 : w.cell? ⟨g, 0, none⟩ = some (.int .i64 a)) (h1 : w.cell? ⟨g, 1, none⟩ = some (.int .i64 b)) (h2 : w.cell? ⟨g, 2, none⟩ = some (.int .i64 c)) :
    Calls Try.prog 90 #[.slice (some ⟨g, 0, none⟩) 3 3] w fun e w' => e = .returned (.int .i64 (or3 a b c)) ∧ w = w' := by
  obtain ⟨r, hr⟩ : ∃ r, or3 a b c = r := ⟨_, rfl⟩
  have HR := Aside0.mk hr
  rw [hr]
  clear hr
  go_enter Try.func90, Try.ntmps90
  go_wp2
  go_loop [8] (fun v8 => ∃ i : Nat, i ≤ 3 ∧ v8 = .int .i64 i ∧ (1 ≤ i → Aside0 (a = 0)) ∧ (2 ≤ i → Aside0 (b = 0)) ∧ (3 ≤ i → Aside0 (c = 0))) (fun v8 => 3 - (intOf v8).toNat)
  case atStart => exact ⟨0, by omega, rfl, fun h => absurd h (by omega), fun h => absurd h (by omega), fun h => absurd h (by omega)⟩
  case round =>
    obtain ⟨i, hi, rfl, ha, hb, hc⟩ := hrel
    obtain rfl | rfl | rfl | rfl : i = 0 ∨ i = 1 ∨ i = 2 ∨ i = 3 := by omega
    · by_cases h : a = 0
      · have d : (a != 0) = false := bne_eq_false_iff_eq.mpr h
        have HA := Aside0.mk h
        clear h ha hb hc
        go_wp2
        go_round
        case rel => exact ⟨1, by omega, rfl, fun _ => HA, fun h => absurd h (by omega), fun h => absurd h (by omega)⟩
        case measure => simp [intOf]
      · have d : (a != 0) = true := bne_iff_ne.mpr h
        have HA := Aside0.mk h
        clear h ha hb hc
        go_wp2
        go_ret
        rw [← HR.out, or3_a HA.out]
        exact ⟨rfl, rfl⟩
    · have HA := ha (by omega)
      by_cases h : b = 0
      · have d : (b != 0) = false := bne_eq_false_iff_eq.mpr h
        have HB := Aside0.mk h
        clear h ha hb hc
        go_wp2
        go_round
        case rel => exact ⟨2, by omega, rfl, fun _ => HA, fun _ => HB, fun h => absurd h (by omega)⟩
        case measure => simp [intOf]
      · have d : (b != 0) = true := bne_iff_ne.mpr h
        have HB := Aside0.mk h
        clear h ha hb hc
        go_wp2
        go_ret
        rw [← HR.out, or3_b HA.out HB.out]
        exact ⟨rfl, rfl⟩
    · have HA := ha (by omega)
      have HB := hb (by omega)
      by_cases h : c = 0
      · have d : (c != 0) = false := bne_eq_false_iff_eq.mpr h
        have HC := Aside0.mk h
        clear h ha hb hc
        go_wp2
        go_round
        case rel => exact ⟨3, by omega, rfl, fun _ => HA, fun _ => HB, fun _ => HC⟩
        case measure => simp [intOf]
      · have d : (c != 0) = true := bne_iff_ne.mpr h
        have HC := Aside0.mk h
        clear h ha hb hc
        go_wp2
        go_ret
        rw [← HR.out, or3_c HA.out HB.out]
        exact ⟨rfl, rfl⟩
    · have HA := ha (by omega)
      have HB := hb (by omega)
      have HC := hc (by omega)
      clear ha hb hc
      go_wp2
      go_ret
      rw [← HR.out, or3_c HA.out HB.out, HC.out]
      exact ⟨rfl, rfl⟩
set_option maxHeartbeats 4000000 in
theorem sorted1_calls (p q : S30) (W : World) : Calls Try.prog 89 #[.agg #[.int .i64 p.f0, .int .i64 p.f1, .int .i64 p.f2], .agg #[.int .i64 q.f0, .int .i64 q.f1, .int .i64 q.f2]] W fun e w' => e = .returned (.int .i64 (cmpS p q)) ∧ ∃ k os, w' = Sort.grow (W.drewN k) os := by
  unfold cmpS
  obtain ⟨a, ha⟩ : ∃ a, cmpI p.f0 q.f0 = a := ⟨_, rfl⟩
  obtain ⟨b, hb⟩ : ∃ b, cmpI p.f1 q.f1 = b := ⟨_, rfl⟩
  obtain ⟨c, hc⟩ : ∃ c, cmpI p.f2 q.f2 = c := ⟨_, rfl⟩
  have HA := Aside0.mk ha
  have HB := Aside0.mk hb
  have HC := Aside0.mk hc
  rw [ha, hb, hc]
  clear ha hb hc
  obtain ⟨r, hr⟩ : ∃ r, or3 a b c = r := ⟨_, rfl⟩
  have HR := Aside0.mk hr
  rw [hr]
  clear hr
  go_enter Try.func89, Try.ntmps89
  go_upto_region 1 with fail
  have hp : ((W.alloc (.cells #[.int .i64 p.f0, .int .i64 p.f1, .int .i64 p.f2] 30)).alloc (.cells #[.int .i64 q.f0, .int .i64 q.f1, .int .i64 q.f2] 30)).heap[W.heap.size]? = some (.cells #[.int .i64 p.f0, .int .i64 p.f1, .int .i64 p.f2] 30 (0, 0)) := blk_alloc (heap_alloc_new W _) _
  have hq : ((W.alloc (.cells #[.int .i64 p.f0, .int .i64 p.f1, .int .i64 p.f2] 30)).alloc (.cells #[.int .i64 q.f0, .int .i64 q.f1, .int .i64 q.f2] 30)).heap[W.heap.size + 1]? = some (.cells #[.int .i64 q.f0, .int .i64 q.f1, .int .i64 q.f2] 30 (0, 0)) := by
    have := heap_alloc_new (W.alloc (.cells #[.int .i64 p.f0, .int .i64 p.f1, .int .i64 p.f2] 30)) (.cells #[.int .i64 q.f0, .int .i64 q.f1, .int .i64 q.f2] 30)
    rw [World.size_alloc] at this
    exact this
  obtain ⟨V, hV⟩ : ∃ V, V = ((W.alloc (.cells #[.int .i64 p.f0, .int .i64 p.f1, .int .i64 p.f2] 30)).alloc (.cells #[.int .i64 q.f0, .int .i64 q.f1, .int .i64 q.f2] 30)) := ⟨_, rfl⟩
  rw [← hV] at hp hq ⊢
  have HV := Aside0.mk hV
  clear hV
  have p0 : V.cell? ⟨W.heap.size, 0, none⟩ = some (.int .i64 p.f0) := (blk_cell hp 0).trans rfl
  have p1 : V.cell? ⟨W.heap.size, 1, none⟩ = some (.int .i64 p.f1) := (blk_cell hp 1).trans rfl
  have p2 : V.cell? ⟨W.heap.size, 2, none⟩ = some (.int .i64 p.f2) := (blk_cell hp 2).trans rfl
  have q0 : V.cell? ⟨W.heap.size + 1, 0, none⟩ = some (.int .i64 q.f0) := (blk_cell hq 0).trans rfl
  have q1 : V.cell? ⟨W.heap.size + 1, 1, none⟩ = some (.int .i64 q.f1) := (blk_cell hq 1).trans rfl
  have q2 : V.cell? ⟨W.heap.size + 1, 2, none⟩ = some (.int .i64 q.f2) := (blk_cell hq 2).trans rfl
  clear hp hq
  go_region_held3 (fun w' => w'.cell? ⟨W.heap.size, 0, none⟩ = some (.int .i64 p.f0) ∧ w'.cell? ⟨W.heap.size, 1, none⟩ = some (.int .i64 p.f1) ∧ w'.cell? ⟨W.heap.size, 2, none⟩ = some (.int .i64 p.f2) ∧ w'.cell? ⟨W.heap.size + 1, 0, none⟩ = some (.int .i64 q.f0) ∧ w'.cell? ⟨W.heap.size + 1, 1, none⟩ = some (.int .i64 q.f1) ∧ w'.cell? ⟨W.heap.size + 1, 2, none⟩ = some (.int .i64 q.f2))
    (first | exact ⟨p0, p1, p2, q0, q1, q2⟩ | exact ⟨xl_cell_alloc _ p0, xl_cell_alloc _ p1, xl_cell_alloc _ p2, xl_cell_alloc _ q0, xl_cell_alloc _ q1, xl_cell_alloc _ q2⟩ | fail)
    (first
      | (go_at_call_of 91 (Value.int .i64 p.f0); refine (compare_calls p.f0 q.f0 _).mono ?_; rw [HA.out]; rintro e w' ⟨rfl, rfl⟩)
      | (go_at_call_of 91 (Value.int .i64 p.f1); refine (compare_calls p.f1 q.f1 _).mono ?_; rw [HB.out]; rintro e w' ⟨rfl, rfl⟩)
      | (go_at_call_of 91 (Value.int .i64 p.f2); refine (compare_calls p.f2 q.f2 _).mono ?_; rw [HC.out]; rintro e w' ⟨rfl, rfl⟩)
      | (go_at_call 90; refine (or_calls a b c _ _ ?_ ?_ ?_).mono ?_; (exact (blk_cell (heap_alloc_new _ _) 0).trans rfl); (exact (blk_cell (heap_alloc_new _ _) 1).trans rfl); (exact (blk_cell (heap_alloc_new _ _) 2).trans rfl); rw [HR.out]; rintro e w' ⟨rfl, rfl⟩))
  all_goals
    go_wp2
    go_ret
    exact ⟨rfl, 1, _, by rw [HV.out]; exact sort_grow3 _ _ _ _⟩
/-! the order -/
def befS (p q : S30) : Prop := p.f0 < q.f0 ∨ (p.f0 = q.f0 ∧ (p.f1 < q.f1 ∨ (p.f1 = q.f1 ∧ p.f2 < q.f2)))
instance befS_dec (p q : S30) : Decidable (befS p q) := by unfold befS; infer_instance
theorem cmpI_cases (x y : Int) : (x < y ∧ cmpI x y = -1) ∨ (y < x ∧ cmpI x y = 1) ∨ (x = y ∧ cmpI x y = 0) := by
  unfold cmpI
  by_cases h : x < y
  · rw [if_pos h]; exact .inl ⟨h, rfl⟩
  · rw [if_neg h]
    by_cases h2 : y < x
    · rw [if_pos h2]; exact .inr (.inl ⟨h2, rfl⟩)
    · rw [if_neg h2]; exact .inr (.inr ⟨by omega, rfl⟩)
theorem cmp_lt (p q : S30) : ltOf cmpS p q = decide (befS p q) := by
  unfold ltOf
  rw [decide_eq_decide]
  unfold cmpS befS
  rcases cmpI_cases p.f0 q.f0 with ⟨h, e⟩ | ⟨h, e⟩ | ⟨h, e⟩
  · rw [e, or3_a (by decide)]; constructor
    · intro _; exact .inl h
    · intro _; decide
  · rw [e, or3_a (by decide)]; constructor
    · intro h'; exact absurd h' (by decide)
    · intro _; omega
  · rw [e]
    rcases cmpI_cases p.f1 q.f1 with ⟨h1, e1⟩ | ⟨h1, e1⟩ | ⟨h1, e1⟩
    · rw [e1, or3_b rfl (by decide)]; constructor
      · intro _; exact .inr ⟨h, .inl h1⟩
      · intro _; decide
    · rw [e1, or3_b rfl (by decide)]; constructor
      · intro h'; exact absurd h' (by decide)
      · intro _; omega
    · rw [e1, or3_c rfl rfl]
      rcases cmpI_cases p.f2 q.f2 with ⟨h2, e2⟩ | ⟨h2, e2⟩ | ⟨h2, e2⟩ <;> rw [e2]
      · exact ⟨fun _ => .inr ⟨h, .inr ⟨h1, h2⟩⟩, fun _ => by decide⟩
      · exact ⟨fun h' => absurd h' (by decide), fun _ => by omega⟩
      · exact ⟨fun h' => absurd h' (by decide), fun _ => by omega⟩
theorem cmp_swo : Sort.SWO (ltOf cmpS) where
  irrefl x := by rw [cmp_lt]; exact decide_eq_false (by unfold befS; omega)
  trans x y z h1 h2 := by rw [cmp_lt] at *; have h1 := of_decide_eq_true h1; have h2 := of_decide_eq_true h2; exact decide_eq_true (by unfold befS at *; omega)
  ntrans x y z h1 h2 := by rw [cmp_lt] at *; have h1 := of_decide_eq_false h1; have h2 := of_decide_eq_false h2; exact decide_eq_false (by unfold befS at *; omega)
theorem cmp_total (x y : S30) (h1 : ltOf cmpS x y = false) (h2 : ltOf cmpS y x = false) : x = y := by
  rw [cmp_lt] at *
  have h1 := of_decide_eq_false h1
  have h2 := of_decide_eq_false h2
  unfold befS at h1 h2
  cases x; cases y
  simp only at h1 h2
  rw [S30.mk.injEq]
  omega
/-- the spots of a list in ascending order -/
def sortS (u : List S30) : List S30 := u.mergeSort fun x y => !(ltOf cmpS) y x
open Go.Sort
instance inhS30 : Inhabited S30 := ⟨z30⟩
def encS (p : S30) : List Value := [.int .i64 p.f0, .int .i64 p.f1, .int .i64 p.f2]
theorem sort_holds {w : World} {g n : Nat} {u : List S30} {cells : Array Value} (hC : Kd.C k30 w (some ⟨g, 0, none⟩) n u) (hg : w.heap[g]? = some (.cells cells 30 (0, 0))) : HoldsK encS 3 w g 0 u.toArray := by
  intro t ht
  rw [size_flatK] at ht
  refine ⟨?_, blk_frozen hg _⟩
  obtain ⟨hl, _, hc⟩ := hC
  have hsz : u.toArray.size = u.length := rfl
  rw [hsz] at ht
  obtain ⟨ad, hA, hcell⟩ := hc (by omega)
  obtain rfl := Option.some.inj hA
  have hd : t / 3 < u.length := by omega
  obtain ⟨c, _, hR, hcc⟩ := hcell (t / 3) _ (List.getElem?_eq_getElem hd)
  obtain rfl := k30_open hR
  have e1 : (flatK encS 3 u.toArray)[t]! = (encS u.toArray[t / 3]!)[t % 3]! := get_flatK encS 3 u.toArray t (by rw [hsz]; exact ht)
  have e2 : u.toArray[t / 3]! = u[t / 3] := by rw [getElem!_pos u.toArray (t / 3) hd]; rfl
  show w.cell? ⟨g, 0 + t, none⟩ = some ((flatK encS 3 u.toArray)[t]!)
  rw [e1, e2]
  have h3 : t % 3 < 3 := Nat.mod_lt _ (by decide)
  have := hcc (t % 3) ((encS u[t / 3])[t % 3]!) (by
    unfold encS
    rcases (show t % 3 = 0 ∨ t % 3 = 1 ∨ t % 3 = 2 by omega) with e | e | e <;> rw [e] <;> rfl)
  rw [show k30.sz = 3 from rfl, show t / 3 * 3 + t % 3 = t by omega, add_plain] at this
  rw [Nat.zero_add]
  exact this
theorem sort_reads {w : World} {g : Nat} {u : List S30} (h : HoldsK encS 3 w g 0 u.toArray) (hu : u.length ≤ 9223372036854775807) : Kd.C k30 w (some ⟨g, 0, none⟩) u.length u := by
  refine ⟨rfl, hu, fun _ => ⟨_, rfl, fun j p hp => ⟨encS p, rfl, k30_mk _ _, fun i v hv => ?_⟩⟩⟩
  obtain ⟨hj, rfl⟩ := List.getElem?_eq_some_iff.mp hp
  have hi : i < 3 := (List.getElem?_eq_some_iff.mp hv).1
  have hs : u.toArray.size = u.length := rfl
  have h1 := (h (j * 3 + i) (by rw [size_flatK, hs]; omega)).1
  rw [get_flatK encS 3 u.toArray _ (by rw [hs]; omega), show (j * 3 + i) / 3 = j by omega, show (j * 3 + i) % 3 = i by omega, getElem!_pos u.toArray j hj] at h1
  rw [show k30.sz = 3 from rfl]
  have h2 : (encS u.toArray[j])[i]! = v := by
    have e : u.toArray[j] = u[j] := rfl
    rw [e, getElem!_pos (encS u[j]) i hi]
    exact (List.getElem?_eq_some_iff.mp hv).2
  rw [h2, Nat.zero_add] at h1
  rw [add_plain]
  exact h1
theorem sort_below {w w1 : World} {g n : Nat} {d : Array S30} {os : Array Obj} (hb : Below w.heap.size w w1) (hg : w.heap.size ≤ g) (hw : g < w1.heap.size) : Below w.heap.size w (sortWorldK encS 3 w1 g 0 n d os) := by
  have h2 : Below w.heap.size w1 (sortWorldK encS 3 w1 g 0 n d os) := by
    refine ⟨rfl, rfl, rfl, ?_, fun k hk => ?_⟩
    · show w1.heap.size ≤ (_ ++ os).size
      rw [Array.size_append]
      show w1.heap.size ≤ (w1.heap.modify g _).size + os.size
      rw [Array.size_modify]; omega
    · show ((w1.heap.modify g _) ++ os)[k]? = _
      rw [Array.getElem?_append_left (by rw [Array.size_modify]; have := hb.size; omega), Array.getElem?_modify, if_neg (by omega)]
  exact hb.trans h2
theorem sorted1_lays (blk size : Nat) (w : World) : CmpLays Try.prog 89 #[] encS 3 cmpS blk 0 size w := fun _ _ _ _ p q => sorted1_calls p q _
set_option maxHeartbeats 4000000 in
set_option maxRecDepth 100000 in
/-- points.sorted: the different spots in ascending order -/
theorem sorted_calls (k : Nat) (A0 : Option Addr) (c0 : Nat) (l0 u : List S30) (w : World) (hr0 : Kd.C k30 w A0 l0.length l0) (hc0 : l0.length ≤ c0) (hu : points_unique.f k l0 = some u) (hl : u.length ≤ 1000) :
    Calls Try.prog 72 #[.slice A0 l0.length c0] w fun e w' => ∃ A c, e = .returned (.slice A (sortS u).length c) ∧ (sortS u).length ≤ c ∧ Kd.C k30 w' A (sortS u).length (sortS u) ∧ Below w.heap.size w w' := by
  have hsl : (sortS u).length = u.length := List.length_mergeSort _
  have HR := Aside0.mk hr0
  have HU := Aside0.mk hu
  have HSL := Aside0.mk hsl
  have HL := Aside0.mk hl
  have eg : ∀ args w, (callFunc 89 args).run Try.prog w = .ok (.enter 89 args) w := enters_of Try.func89 (by kernel_rfl) rfl
  have EG := Aside0.mk eg
  simp only [hsl]
  clear hr0 hu hsl eg hl
  go_enter Try.func72, Try.ntmps72
  go_wp2_with fail
  refine (points_unique.calls k A0 c0 l0 u w HR.out hc0 HU.out).mono ?_
  rintro e w1 ⟨v1, rfl, ho, hb⟩
  have HB := Aside0.mk hb
  by_cases hz : u.length = 0
  · obtain rfl : u = [] := List.eq_nil_of_length_eq_zero hz
    obtain ⟨A, c, rfl, hc, hC⟩ := Kd.R_reads ho
    have HC := Aside0.mk hC
    have hcon := AnyF.slices_SortFunc_none { Try.sortSpot with } A c (.func (.func 89) #[] #[]) w1
    change Calls Try.prog 88 _ _ _ at hcon
    have HN := Aside0.mk hcon
    clear ho hb hC hcon
    go_wp2_with fail
    refine HN.out.mono ?_
    rintro e w2 ⟨rfl, rfl⟩
    go_wp2
    go_ret
    exact ⟨A, c, rfl, hc, by rw [show sortS [] = [] from List.mergeSort_nil]; exact HC.out, HB.out⟩
  · have hpos : 0 < u.length := by omega
    obtain ⟨g, cap, rfl, hg, hgl, cells, hgc⟩ := Kd.R_form ho hpos
    obtain ⟨_, hcap, hC⟩ := Kd.R_reads' ho
    have hH := sort_holds hC hgc
    have hcon := AnyQ.slices_SortFunc_total Try.sortSpot 3 Try.isAgg30 Try.sizeOf30 encS (fun _ => rfl) (fun x v hv => by simp [encS] at hv; rcases hv with rfl | rfl | rfl <;> rfl) cmpS cmp_swo 89 #[] g 0 cap u.toArray w1 EG.out (sorted1_lays g u.length w1) hH hgl (by have := HL.out; show u.length < _; omega) cmp_total
    change Calls Try.prog 88 _ _ _ at hcon
    have HN := Aside0.mk hcon
    have HH := Aside0.mk hH
    clear ho hb hC hcon hgc hz hpos hH
    go_wp2_with fail
    refine HN.out.mono ?_
    rintro e w2 ⟨rfl, n, os, rfl⟩
    have hw : (u.toArray.toList.mergeSort fun x y => !(ltOf cmpS) y x) = sortS u := rfl
    rw [hw]
    have hB2 := Aside0.mk (sort_below (n := n) (d := (sortS u).toArray) (os := os) HB.out hg hgl)
    have hH2 := holdsK_sortWorldK encS 3 w1 g 0 n u.toArray (sortS u).toArray os hgl HH.out (by show (sortS u).length = u.length; exact HSL.out)
    have hC2 := sort_reads hH2 (by rw [HSL.out]; have := HL.out; omega)
    rw [HSL.out] at hC2
    have HC2 := Aside0.mk hC2
    clear hH2 hw hC2
    generalize sortWorldK encS 3 w1 g 0 n (sortS u).toArray os = w3 at *
    go_wp2
    go_ret
    exact ⟨_, cap, rfl, hcap, HC2.out, hB2.out⟩
end Go.Proofs.Ytgfkodanekfekaa.X

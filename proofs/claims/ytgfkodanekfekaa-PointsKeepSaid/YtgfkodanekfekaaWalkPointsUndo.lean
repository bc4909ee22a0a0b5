/- The law PointsUndo walked: a turn and the opposite one, two mirrors, a shift and the opposite one change nothing; for all samples, vectors and turns. -/
import Derived.Test.YtgfkodanekfekaaBaseKeep
import Derived.Test.YtgfkodanekfekaaX10
import Derived.Test.YtgfkodanekfekaaX9
import Derived.Test.YtgfkodanekfekaaX7
import Derived.Test.YtgfkodanekfekaaX5
namespace Go.Proofs.Ytgfkodanekfekaa.X
open Go.RowKit Go.Proofs.YtgfkodanekfekaaW.PrintWords Go.Proofs.YtgfkodanekfekaaW.PrintLast Go.Proofs.YtgfkodanekfekaaW.PrintMore
attribute [local go_sem] max2_int min2_int max_two min_two max_three min_three max_four min_four
set_option linter.unusedVariables false
set_option linter.unusedSimpArgs false
/-! plain laws -/
def GoodL (l : List S30) : Prop := l.length ≤ 64 ∧ ∀ p ∈ l, okSpot p = true
theorem good_chk {l : List S30} (h : GoodL l) : Base.chk l = 0 := Base.chk_iff.mpr h
theorem good_along {l : List S30} (h : GoodL l) {a : Int} (h0 : 0 ≤ a) (h2 : a ≤ 2) : points_along.f l a = some 0 := by
  rw [Base.along_f]; unfold Base.alongV; rw [if_pos (good_chk h), if_pos ⟨h0, h2⟩]
theorem good_iso {g : Int × Int × Int → Int × Int × Int} (hg : Base.Iso g) {l : List S30} (h : GoodL l) : GoodL (mapT g l) := by
  have := Base.good_iso hg h.2
  exact ⟨by rw [this.len]; exact h.1, this.ok⟩
theorem undo_turn {l : List S30} (h : GoodL l) {a : Int} (h0 : 0 ≤ a) (h2 : a ≤ 2) (q : Int) : points_Turn.f l a q = some (mapT (turnN a (q % 4).toNat) l, 0) := by
  unfold points_Turn.f; rw [good_along h h0 h2, Option.bind_some, if_pos rfl]
theorem undo_mirror {l : List S30} (h : GoodL l) {a : Int} (h0 : 0 ≤ a) (h2 : a ≤ 2) : points_Mirror.f l a = some (mapT (mirrorV a) l, 0) := by
  unfold points_Mirror.f; rw [good_along h h0 h2, Option.bind_some, if_pos rfl]
theorem mapT_mapT (f g : Int × Int × Int → Int × Int × Int) (l : List S30) : mapT g (mapT f l) = mapT (fun t => g (f t)) l := by
  unfold mapT; rw [List.map_map]; rfl
theorem mapT_id {g : Int × Int × Int → Int × Int × Int} {l : List S30} (h : ∀ p ∈ l, g (p.f0, p.f1, p.f2) = (p.f0, p.f1, p.f2)) : mapT g l = l := by
  unfold mapT
  refine (List.map_congr_left (g := id) (fun p hp => ?_)).trans (List.map_id l)
  rw [h p hp]; rfl
theorem neg_neg_w {x : Int} (h1 : -100000 ≤ x) (h2 : x ≤ 100000) : wrap64 (-(wrap64 (-x))) = x := by unfold wrap64; omega
theorem turn4 (a : Int) (t : Int × Int × Int) (h : okSpot (Base.tS t) = true) : turnN a 4 t = t := by
  have h := (Base.ok_iff _).mp h
  obtain ⟨x, y, z⟩ := t
  simp only [Base.tS] at h
  simp only [turnN, turnV]
  by_cases h0 : a = 0
  · simp only [if_pos h0]; rw [neg_neg_w (by omega) (by omega), neg_neg_w (by omega) (by omega)]
  · by_cases h1 : a = 1
    · simp only [if_neg h0, if_pos h1]; rw [neg_neg_w (by omega) (by omega), neg_neg_w (by omega) (by omega)]
    · simp only [if_neg h0, if_neg h1]; rw [neg_neg_w (by omega) (by omega), neg_neg_w (by omega) (by omega)]
theorem turnN_add (a : Int) (n : Nat) (t : Int × Int × Int) : ∀ m, turnN a m (turnN a n t) = turnN a (m + n) t
  | 0 => by rw [Nat.zero_add]; rfl
  | m + 1 => by rw [show m + 1 + n = (m + n) + 1 by omega]; simp only [turnN]; rw [turnN_add a n t m]
theorem turn_back {l : List S30} (h : GoodL l) (a : Int) (q : Int) : mapT (turnN a ((wrap64 (-q)) % 4).toNat) (mapT (turnN a (q % 4).toNat) l) = l := by
  rw [mapT_mapT]
  refine mapT_id (fun p hp => ?_)
  rw [turnN_add]
  have hm : ((wrap64 (-q)) % 4).toNat + (q % 4).toNat = 0 ∨ ((wrap64 (-q)) % 4).toNat + (q % 4).toNat = 4 := by unfold wrap64; omega
  rcases hm with e | e
  · rw [e]; rfl
  · rw [e]; exact turn4 a _ (h.2 p hp)
theorem mirror_back {l : List S30} (h : GoodL l) (a : Int) : mapT (mirrorV a) (mapT (mirrorV a) l) = l := by
  rw [mapT_mapT]
  refine mapT_id (fun p hp => ?_)
  have h := (Base.ok_iff _).mp (h.2 p hp)
  unfold mirrorV
  by_cases h0 : a = 0
  · simp only [if_pos h0]; rw [neg_neg_w (by omega) (by omega)]
  · by_cases h1 : a = 1
    · simp only [if_neg h0, if_pos h1]; rw [neg_neg_w (by omega) (by omega)]
    · simp only [if_neg h0, if_neg h1]; rw [neg_neg_w (by omega) (by omega)]
def halfs (l : List S30) : Nat → List S30
  | 0 => l
  | k + 1 => mapT (turnN k 2) (halfs l k)
theorem halfs_good {l : List S30} (h : GoodL l) : ∀ k, GoodL (halfs l k)
  | 0 => h
  | k + 1 => good_iso (Base.iso_turnN _ 2) (halfs_good h k)
theorem halfs_three {l : List S30} (h : GoodL l) : halfs l 3 = l := by
  show mapT (turnN (2 : Nat) 2) (mapT (turnN (1 : Nat) 2) (mapT (turnN (0 : Nat) 2) l)) = l
  rw [mapT_mapT, mapT_mapT]
  refine mapT_id (fun p hp => ?_)
  have h := (Base.ok_iff _).mp (h.2 p hp)
  simp only [turnN, turnV]
  simp
  refine ⟨?_, ?_, ?_⟩ <;> exact neg_neg_w (by omega) (by omega)
theorem shift_back {l : List S30} (h : GoodL l) {a b c : Int} (hs : (Base.shiftR l a b c).2 = 0) : ∃ m, points_Shift.f l a b c = some (m, 0) ∧ points_Shift.f m (wrap64 (-a)) (wrap64 (-b)) (wrap64 (-c)) = some (l, 0) := by
  refine ⟨(Base.shiftR l a b c).1, by rw [Base.shift_f, ← hs], ?_⟩
  unfold Base.shiftR at hs ⊢
  rw [if_pos (good_chk h)] at hs ⊢
  by_cases h1 : okSpot ⟨a, b, c⟩ = true
  case neg => rw [if_neg h1] at hs; exact absurd hs (by decide)
  rw [if_pos h1] at hs ⊢
  by_cases h2 : l.all (Base.movedOk a b c) = true
  case neg => rw [if_neg h2] at hs; exact absurd hs (by decide)
  rw [if_pos h2]
  have hb := (Base.ok_iff _).mp h1
  simp only at hb
  have K := Base.good_shift h1 h.2 h2
  have hG : GoodL (mapT (shiftV a b c) l) := ⟨by rw [K.len]; exact h.1, K.ok⟩
  have na : wrap64 (-a) = -a := Base.neg_w (by omega) (by omega)
  have nb : wrap64 (-b) = -b := Base.neg_w (by omega) (by omega)
  have nc : wrap64 (-c) = -c := Base.neg_w (by omega) (by omega)
  have hid : mapT (shiftV (-a) (-b) (-c)) (mapT (shiftV a b c) l) = l := by
    rw [mapT_mapT]
    refine mapT_id (fun p hp => ?_)
    have h3 := (Base.ok_iff _).mp (h.2 p hp)
    unfold shiftV
    simp only
    refine Prod.ext ?_ (Prod.ext ?_ ?_) <;> (simp only; unfold wrap64; omega)
  rw [Base.shift_f, na, nb, nc]
  unfold Base.shiftR
  rw [if_pos (good_chk hG), if_pos ((Base.ok_iff _).mpr (by simp only; omega)), if_pos, hid]
  rw [List.all_eq_true]
  intro p hp
  unfold Base.movedOk
  rw [show shiftV (-a) (-b) (-c) (p.f0, p.f1, p.f2) = ((shiftV (-a) (-b) (-c) (p.f0, p.f1, p.f2)).1, (shiftV (-a) (-b) (-c) (p.f0, p.f1, p.f2)).2.1, (shiftV (-a) (-b) (-c) (p.f0, p.f1, p.f2)).2.2) from rfl, Base.ranged_ok]
  refine h.2 _ ?_
  have := List.mem_map_of_mem (f := fun p : S30 => (⟨(shiftV (-a) (-b) (-c) (p.f0, p.f1, p.f2)).1, (shiftV (-a) (-b) (-c) (p.f0, p.f1, p.f2)).2.1, (shiftV (-a) (-b) (-c) (p.f0, p.f1, p.f2)).2.2⟩ : S30)) hp
  have e : (mapT (shiftV a b c) l).map (fun p : S30 => (⟨(shiftV (-a) (-b) (-c) (p.f0, p.f1, p.f2)).1, (shiftV (-a) (-b) (-c) (p.f0, p.f1, p.f2)).2.1, (shiftV (-a) (-b) (-c) (p.f0, p.f1, p.f2)).2.2⟩ : S30)) = l := hid
  rw [e] at this
  exact this
/-! the calls, with rows -/
theorem undo_turn_row {A : Option Addr} {c : Nat} {l m : List S30} {a q : Int} {w : World} (hr : Kd.C k30 w A l.length l) (hc : l.length ≤ c) (h : points_Turn.f l a q = some (m, 0)) :
    Calls Try.prog 17 #[.slice A l.length c, .int .i64 a, .int .i64 q] w fun e w' => ∃ A' c', e = .returned (.tuple #[.slice A' m.length c', .int .i64 0]) ∧ m.length ≤ c' ∧ Kd.C k30 w' A' m.length m ∧ Below w.heap.size w w' :=
  (points_Turn.calls A c l a q m 0 w hr hc h).mono fun e w' ⟨v, he, ho, hb⟩ => by
    obtain ⟨A', c', rfl, hc', hC⟩ := Kd.R_reads ho
    exact ⟨A', c', he, hc', hC, hb⟩
theorem undo_mirror_row {A : Option Addr} {c : Nat} {l m : List S30} {a : Int} {w : World} (hr : Kd.C k30 w A l.length l) (hc : l.length ≤ c) (h : points_Mirror.f l a = some (m, 0)) :
    Calls Try.prog 19 #[.slice A l.length c, .int .i64 a] w fun e w' => ∃ A' c', e = .returned (.tuple #[.slice A' m.length c', .int .i64 0]) ∧ m.length ≤ c' ∧ Kd.C k30 w' A' m.length m ∧ Below w.heap.size w w' :=
  (points_Mirror.calls A c l a m 0 w hr hc h).mono fun e w' ⟨v, he, ho, hb⟩ => by
    obtain ⟨A', c', rfl, hc', hC⟩ := Kd.R_reads ho
    exact ⟨A', c', he, hc', hC, hb⟩
theorem undo_shift_row {A : Option Addr} {c : Nat} {l m : List S30} {x y z e0 : Int} {w : World} (hr : Kd.C k30 w A l.length l) (hc : l.length ≤ c) (h : points_Shift.f l x y z = some (m, e0)) :
    Calls Try.prog 25 #[.slice A l.length c, .agg #[.int .i64 x, .int .i64 y, .int .i64 z]] w fun e w' => ∃ A' c', e = .returned (.tuple #[.slice A' m.length c', .int .i64 e0]) ∧ m.length ≤ c' ∧ Kd.C k30 w' A' m.length m ∧ Below w.heap.size w w' :=
  (points_Shift.calls A c l x y z m e0 w hr hc h).mono fun e w' ⟨v, he, ho, hb⟩ => by
    obtain ⟨A', c', rfl, hc', hC⟩ := Kd.R_reads ho
    exact ⟨A', c', he, hc', hC, hb⟩
theorem undo_equal {A A' : Option Addr} {c c' : Nat} {l : List S30} {w : World} (hr : Kd.C k30 w A l.length l) (hc : l.length ≤ c) (hr' : Kd.C k30 w A' l.length l) (hc' : l.length ≤ c') (hl : l.length ≤ 64) :
    Calls Try.prog 21 #[.slice A l.length c, .slice A' l.length c'] w fun e w' => e = .returned (.bool true) ∧ Below w.heap.size w w' :=
  (api_Spot_21.calls 100 A c l A' c' l true w hr hc hr' hc' (by rw [Base.eq30_f l l (by omega) 100 (by omega)]; simp)).mono fun e w' ⟨he, hb⟩ => by
    obtain ⟨n, rfl⟩ := hb
    exact ⟨he, pw_below_drewN (Below.refl _ _) n⟩
def metrolablaw31_PointsUndo.f (l : List S30) (a b c t : Int) : Option Bool := if 0 ≤ t ∧ t ≤ 255 then some true else none
set_option maxHeartbeats 4000000 in
set_option maxRecDepth 100000 in
theorem undo_wrong (A0 : Option Addr) (c0 : Nat) (l0 : List S30) (a b c t : Int) (w : World) (hr0 : Kd.C k30 w A0 l0.length l0) (hc0 : l0.length ≤ c0) (hg : Base.chk l0 ≠ 0) :
    Calls Try.prog 6 #[.slice A0 l0.length c0, .agg #[.int .i64 a, .int .i64 b, .int .i64 c], .int .u8 t] w fun e w' => e = .returned (.bool true) ∧ Below w.heap.size w w' := by
  have HR := Aside0.mk hr0
  have HRT := Aside0.mk (show metrolablaw31_right.f 100 l0 = some false from by unfold metrolablaw31_right.f; rw [Base.rcheck_f l0 100 (by omega), Option.bind_some, beq_eq_false_iff_ne.mpr hg])
  have HB0 := Aside0.mk ((Below.refl w.heap.size w).alloc (Nat.le_refl _) (.cells #[.int .i64 a, .int .i64 b, .int .i64 c] 30))
  clear hr0 hg
  go_enter Try.func6, Try.ntmps6
  go_wp2_with (first
    | (go_at_call 12; refine (metrolablaw31_right.calls 100 A0 c0 l0 false _ (Kd.C_below HR.out HB0.out) hc0 HRT.out).mono ?_; rintro e w1 ⟨rfl, hb1⟩)
    | (go_at_call 13; refine (metrolablaw31_awake.calls 100 true _ (Base.awake_k 100 (by omega))).mono ?_; rintro e w2 ⟨rfl, hb2⟩))
  go_ret
  have HB1 := HB0.out.trans (hb1.mono HB0.out.size)
  exact ⟨rfl, HB1.trans (hb2.mono HB1.size)⟩
set_option maxHeartbeats 8000000 in
set_option maxRecDepth 100000 in
theorem undo_walk (A0 : Option Addr) (c0 : Nat) (l0 : List S30) (a b c_ t : Int) (w : World) (hr0 : Kd.C k30 w A0 l0.length l0) (hc0 : l0.length ≤ c0) (hg : Base.chk l0 = 0) (ht : 0 ≤ t ∧ t ≤ 255) :
    Calls Try.prog 6 #[.slice A0 l0.length c0, .agg #[.int .i64 a, .int .i64 b, .int .i64 c_], .int .u8 t] w fun e w' => e = .returned (.bool true) ∧ Below w.heap.size w w' := by
  have G : GoodL l0 := Base.chk_iff.mp hg
  have HR := Aside0.mk hr0
  have HG := Aside0.mk G
  have HRT := Aside0.mk (show metrolablaw31_right.f 100 l0 = some true from by unfold metrolablaw31_right.f; rw [Base.rcheck_f l0 100 (by omega), hg]; rfl)
  have hw := (Below.refl w.heap.size w).alloc (Nat.le_refl _) (.cells #[.int .i64 a, .int .i64 b, .int .i64 c_] 30)
  have HB0 := Aside0.mk hw
  have HX := Aside0.mk (heap_alloc_new w (.cells #[.int .i64 a, .int .i64 b, .int .i64 c_] 30))
  obtain ⟨ax, hax⟩ : ∃ ax, Int.tmod (wrap64 t) 3 = ax := ⟨_, rfl⟩
  have hax2 : 0 ≤ ax ∧ ax ≤ 2 := by
    rw [← hax, show wrap64 t = t from by unfold wrap64; omega, Int.tmod_eq_emod_of_nonneg ht.1]; omega
  obtain ⟨n, hn⟩ : ∃ n, wrap64 (Int.tdiv (wrap64 t) 3) = n := ⟨_, rfl⟩
  obtain ⟨m1, hm1⟩ : ∃ m, m = mapT (turnN ax (n % 4).toNat) l0 := ⟨_, rfl⟩
  obtain ⟨m2, hm2⟩ : ∃ m, m = mapT (mirrorV ax) l0 := ⟨_, rfl⟩
  have G1 : GoodL m1 := by rw [hm1]; exact good_iso (Base.iso_turnN _ _) G
  have G2 : GoodL m2 := by rw [hm2]; exact good_iso (Base.iso_mirror _) G
  have T1 := Aside0.mk (show points_Turn.f l0 ax n = some (m1, 0) from by rw [undo_turn G hax2.1 hax2.2, hm1])
  have T2 := Aside0.mk (show points_Turn.f m1 ax (wrap64 (-n)) = some (l0, 0) from by rw [undo_turn G1 hax2.1 hax2.2, hm1, turn_back G])
  have M1 := Aside0.mk (show points_Mirror.f l0 ax = some (m2, 0) from by rw [undo_mirror G hax2.1 hax2.2, hm2])
  have M2 := Aside0.mk (show points_Mirror.f m2 ax = some (l0, 0) from by rw [undo_mirror G2 hax2.1 hax2.2, hm2, mirror_back G])
  have X := Aside0.mk (fun (k : Nat) (hk : k < 3) => show points_Turn.f (halfs l0 k) (k : Int) 2 = some (halfs l0 (k + 1), 0) from by rw [undo_turn (halfs_good G k) (by omega) (by omega)]; rfl)
  have X3 := Aside0.mk (halfs_three G)
  have HL := Aside0.mk (show l0.length ≤ 64 from G.1)
  have HS := Aside0.mk (shift_back G (a := a) (b := b) (c := c_))
  have HSF := Aside0.mk (Base.shift_f l0 a b c_)
  have HAX := Aside0.mk hax
  have HN := Aside0.mk hn
  clear hr0 hg hw hm1 hm2 G1 G2 G ht hax2 hax hn
  go_enter Try.func6, Try.ntmps6
  go_wp2_with fail
  refine (metrolablaw31_right.calls 100 A0 c0 l0 true _ (Kd.C_below HR.out HB0.out) hc0 HRT.out).mono ?_
  rintro e w1 ⟨rfl, hb1⟩
  have H0 := Aside0.mk (HB0.out.trans (hb1.mono HB0.out.size))
  have hxc := (hb1.block _ (by rw [World.size_alloc]; omega)).trans HX.out
  have HXC := Aside0.mk hxc
  clear hb1 HB0 HX hxc
  go_wp2_with fail
  rw [HAX.out, HN.out]
  refine (undo_turn_row (Kd.C_below HR.out H0.out) hc0 T1.out).mono ?_
  rintro e w2 ⟨A1, c1, rfl, hc1, hC1, hb2⟩
  have H1 := Aside0.mk (H0.out.trans (hb2.mono H0.out.size))
  have hxc := (hb2.block _ (blk_lt HXC.out)).trans HXC.out
  have HXC2 := Aside0.mk hxc
  clear hxc HXC H0 hb2
  go_wp2_with fail
  refine (undo_turn_row hC1 hc1 T2.out).mono ?_
  rintro e w3 ⟨A2, c2, rfl, hc2, hC2, hb3⟩
  have H2 := Aside0.mk (H1.out.trans (hb3.mono H1.out.size))
  have HXC3 := Aside0.mk ((hb3.block _ (blk_lt HXC2.out)).trans HXC2.out)
  have HC2 := Aside0.mk hC2
  clear hC1 hc1 HXC2 H1 hb3 hC2
  go_wp2_with fail
  refine (undo_mirror_row (Kd.C_below HR.out H2.out) hc0 M1.out).mono ?_
  rintro e w4 ⟨A3, c3, rfl, hc3, hC3, hb4⟩
  have H3 := Aside0.mk (H2.out.trans (hb4.mono H2.out.size))
  have HXC4 := Aside0.mk ((hb4.block _ (blk_lt HXC3.out)).trans HXC3.out)
  have HC3 := Aside0.mk (Kd.C_below HC2.out hb4)
  clear HXC3 H2 hb4 HC2
  go_wp2_with fail
  refine (undo_mirror_row hC3 hc3 M2.out).mono ?_
  rintro e w5 ⟨A4, c4, rfl, hc4, hC4, hb5⟩
  have H4 := Aside0.mk (H3.out.trans (hb5.mono H3.out.size))
  have HXC5 := Aside0.mk ((hb5.block _ (blk_lt HXC4.out)).trans HXC4.out)
  have HC4 := Aside0.mk (Kd.C_below HC3.out hb5)
  have HC5 := Aside0.mk hC4
  clear HXC4 H3 hb5 HC3 hC3 hc3 hC4
  go_wp2_with fail
  refine (undo_equal HC4.out hc2 (Kd.C_below HR.out H4.out) hc0 HL.out).mono ?_
  rintro e w6 ⟨rfl, hb6⟩
  have H5 := Aside0.mk (H4.out.trans (hb6.mono H4.out.size))
  have HXC6 := Aside0.mk ((hb6.block _ (blk_lt HXC5.out)).trans HXC5.out)
  have HC6 := Aside0.mk (Kd.C_below HC5.out hb6)
  clear HXC5 H4 hb6 HC5 HC4 hc2
  go_wp2_with fail
  refine (undo_equal HC6.out hc4 (Kd.C_below HR.out H5.out) hc0 HL.out).mono ?_
  rintro e w7 ⟨rfl, hb7⟩
  have H6 := Aside0.mk (H5.out.trans (hb7.mono H5.out.size))
  have HXC7 := Aside0.mk ((hb7.block _ (blk_lt HXC6.out)).trans HXC6.out)
  clear HXC6 H5 hb7 HC6 hc4
  go_wp2_with fail
  have HC0 := Aside0.mk (Kd.C_below HR.out H6.out)
  go_loopw [17, 79] (fun v17 v79 wr => ∃ (k : Nat) (A : Option Addr) (c : Nat), k ≤ 3 ∧ v79 = .int .i64 k ∧ v17 = .slice A (halfs l0 k).length c ∧ Aside0 ((halfs l0 k).length ≤ c) ∧ Aside0 (Kd.C k30 wr A (halfs l0 k).length (halfs l0 k)) ∧ Aside0 (Below w7.heap.size w7 wr)) (fun _ v79 _ => 3 - (intOf v79).toNat)
  case atStart => exact ⟨0, A0, c0, by omega, rfl, rfl, ⟨hc0⟩, HC0, ⟨Below.refl _ _⟩⟩
  case round =>
    obtain ⟨k, A, c, hk, rfl, rfl, HCC, HCR, HBR⟩ := hrel
    by_cases hlt : k < 3
    · go_wp2_with fail
      refine (undo_turn_row HCR.out HCC.out (X.out k hlt)).mono ?_
      rintro e w8 ⟨A8, c8, rfl, hc8, hC8, hb8⟩
      go_wp2_with fail
      go_roundw
      case rel => exact ⟨k + 1, A8, c8, by omega, by go_num, rfl, ⟨hc8⟩, ⟨hC8⟩, ⟨HBR.out.trans (hb8.mono HBR.out.size)⟩⟩
      case measure => simp [intOf]; omega
    · obtain rfl : k = 3 := by omega
      rw [X3.out] at HCC HCR
      simp only [X3.out]
      have HXC8 := Aside0.mk ((HBR.out.block _ (blk_lt HXC7.out)).trans HXC7.out)
      have H7 := Aside0.mk (H6.out.trans (HBR.out.mono H6.out.size))
      clear HXC7 H6 hlt
      go_wp2_with fail
      refine (undo_equal HCR.out HCC.out (Kd.C_below HR.out H7.out) hc0 HL.out).mono ?_
      rintro e w8 ⟨rfl, hb8⟩
      have H8 := Aside0.mk (H7.out.trans (hb8.mono H7.out.size))
      have hxc := (hb8.block _ (blk_lt HXC8.out)).trans HXC8.out
      have HXC9 := Aside0.mk hxc
      have z0 : w8.cell? ⟨w.heap.size, 0, none⟩ = some (.int .i64 a) := (blk_cell hxc 0).trans rfl
      have z1 : w8.cell? ⟨w.heap.size, 1, none⟩ = some (.int .i64 b) := (blk_cell hxc 1).trans rfl
      have z2 : w8.cell? ⟨w.heap.size, 2, none⟩ = some (.int .i64 c_) := (blk_cell hxc 2).trans rfl
      clear hxc HXC8 H7 hb8 HCR HCC
      by_cases hs : (Base.shiftR l0 a b c_).2 = 0
      · obtain ⟨m, hm1, hm2⟩ := HS.out hs
        have HM1 := Aside0.mk hm1
        have HM2 := Aside0.mk hm2
        clear hs hm1 hm2
        go_wp2_with fail
        refine (undo_shift_row (Kd.C_below HR.out H8.out) hc0 HM1.out).mono ?_
        rintro e w9 ⟨A9, c9, rfl, hc9, hC9, hb9⟩
        have H9 := Aside0.mk (H8.out.trans (hb9.mono H8.out.size))
        have hxc := (hb9.block _ (blk_lt HXC9.out)).trans HXC9.out
        have y0 : w9.cell? ⟨w.heap.size, 0, none⟩ = some (.int .i64 a) := (blk_cell hxc 0).trans rfl
        have y1 : w9.cell? ⟨w.heap.size, 1, none⟩ = some (.int .i64 b) := (blk_cell hxc 1).trans rfl
        have y2 : w9.cell? ⟨w.heap.size, 2, none⟩ = some (.int .i64 c_) := (blk_cell hxc 2).trans rfl
        clear hxc HXC9 hb9 H8 z0 z1 z2
        go_wp2_with fail
        refine (undo_shift_row hC9 hc9 HM2.out).mono ?_
        rintro e w10 ⟨A10, c10, rfl, hc10, hC10, hb10⟩
        have H10 := Aside0.mk (H9.out.trans (hb10.mono H9.out.size))
        have HC10 := Aside0.mk hC10
        clear hC10 hb10 hC9 hc9 H9 y0 y1 y2
        go_wp2_with fail
        refine (undo_equal HC10.out hc10 (Kd.C_below HR.out H10.out) hc0 HL.out).mono ?_
        rintro e w11 ⟨rfl, hb11⟩
        have H11 := Aside0.mk (H10.out.trans (hb11.mono H10.out.size))
        clear hb11 H10 HC10
        go_wp2_with fail
        refine (metrolablaw31_awake.calls 100 true _ (Base.awake_k 100 (by omega))).mono ?_
        rintro e w12 ⟨rfl, hb12⟩
        go_wp2
        go_ret
        exact ⟨rfl, H11.out.trans (hb12.mono H11.out.size)⟩
      · obtain ⟨⟨m, e0⟩, hr⟩ : ∃ r, Base.shiftR l0 a b c_ = r := ⟨_, rfl⟩
        rw [hr] at hs HSF
        have hs' : e0 ≠ 0 := hs
        have hne : (e0 != 0) = true := bne_iff_ne.mpr hs'
        clear hs hs' hr HS
        go_wp2_with fail
        refine (undo_shift_row (Kd.C_below HR.out H8.out) hc0 HSF.out).mono ?_
        rintro e w9 ⟨A9, c9, rfl, hc9, hC9, hb9⟩
        have H9 := Aside0.mk (H8.out.trans (hb9.mono H8.out.size))
        clear hb9 H8 z0 z1 z2 hC9
        go_wp2_with fail
        refine (metrolablaw31_awake.calls 100 true _ (Base.awake_k 100 (by omega))).mono ?_
        rintro e w12 ⟨rfl, hb12⟩
        go_wp2
        go_ret
        exact ⟨rfl, H9.out.trans (hb12.mono H9.out.size)⟩
theorem metrolablaw31_PointsUndo.calls (A0 : Option Addr) (c0 : Nat) (l0 : List S30) (a b c t : Int) (r : Bool) (w : World) (hr0 : Kd.C k30 w A0 l0.length l0) (hc0 : l0.length ≤ c0) (h : metrolablaw31_PointsUndo.f l0 a b c t = some r) :
    Calls Try.prog 6 #[.slice A0 l0.length c0, .agg #[.int .i64 a, .int .i64 b, .int .i64 c], .int .u8 t] w fun e w' => e = .returned (.bool r) ∧ Below w.heap.size w w' := by
  unfold metrolablaw31_PointsUndo.f at h
  by_cases ht : 0 ≤ t ∧ t ≤ 255
  case neg => rw [if_neg ht] at h; cases h
  rw [if_pos ht] at h
  obtain rfl := Option.some.inj h
  by_cases hg : Base.chk l0 = 0
  · exact undo_walk A0 c0 l0 a b c t w hr0 hc0 hg ht
  · exact undo_wrong A0 c0 l0 a b c t w hr0 hc0 hg
end Go.Proofs.Ytgfkodanekfekaa.X

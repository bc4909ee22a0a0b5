-- Made by wip/xprint.py for this claim: the kit's printer over the translation, with hand-proved functions in their places. Lean checks it.
import Derived.Test.YtkpojbglckmddaaX0
import Derived.Test.YtkpojbglckmddaaX3
import Derived.Test.YtkpojbglckmddaaX5
import Derived.Test.YtkpojbglckmddaaX13
import Derived.Test.YtkpojbglckmddaaX21
namespace Go.Proofs.Ytkpojbglckmddaa.X
open Go.RowKit Go.Proofs.YtkpojbglckmddaaW.PrintWords Go.Proofs.YtkpojbglckmddaaW.PrintLast Go.Proofs.YtkpojbglckmddaaW.PrintMore
attribute [local go_sem] max2_int min2_int max_two min_two max_three min_three max_four min_four   -- for this text's walks alone
set_option linter.unusedVariables false
set_option linter.unusedSimpArgs false

/-! ### metrolablaw38_RunoutMoves: function 8, proved by hand -/
/-- one section fewer; or, of one section alone, one point fewer -/
def cutS (s : S62) : S62 := if 1 < s.f1.length then ⟨s.f0, s.f1.take (s.f1.length - 1)⟩ else s
def lessL (l : List S62) : List S62 := if 1 < l.length then l.drop 1 else [cutS (rd_T62 l 0)]
/-- A call of a function value that stands in a slot. -/
theorem goesV_ {P : Program} {ops : Array Oper} {Q : Exit → Act → World → Prop} {rest : List Oper} {oi : Oper} {a : Act} {w : World} (N : Option Tmp) (hd : oi.dst = N) (hg : oi.guard = none) {f : FuncId} {fn : Func} {vo : Operand} {xs_ : Array Operand} {ts : Array TypeId} (hf : P.funcs[f]? = some fn) (hname : (fn.name == "runtime.NumGoroutine") = false) (hb : fn.body.isSome = true) (args caps all_ : Array Value)
    (hop : oi.op = .call { callee := .value vo, args := xs_, argTypes := ts }) (hv : a.eval vo = .func (.func f) #[] caps) (hargs : xs_.map a.eval = args) (hall : args ++ caps = all_)
    (h : Calls P f all_ w fun e w' => ∃ v, e = .returned v ∧ wpList P ops Q rest (a.put N v) w') : wpList P ops Q (oi :: rest) a w := by
  subst hall
  refine wpList_plain hg fun K hK => ?_
  have he := enters_ hf hname hb (args ++ caps) w
  have hrun : (execOp a.eval oi).run P w = .ok (.enter f (args ++ caps)) w := by
    unfold execOp
    simp [hop, resolve, Deferred.ofValue, invoke, hv, hargs, he]
  unfold Oper.wp
  rw [hrun, Oper.upon_enter]
  refine h.mono fun e w'' hh => ?_
  obtain ⟨v, rfl, hk⟩ := hh
  subst hd
  exact hK _ _ hk
theorem gate_value {P : Program} {ops : Array Oper} {Q : Exit → Act → World → Prop} {rest : List Oper} {o : Oper} {a : Act} {W : World} {n : Tmp} {xs_ : Array Operand} {ts : Array TypeId} (_ho : o.op = .call { callee := .value (.tmp n), args := xs_, argTypes := ts }) (h : wpList P ops Q (o :: rest) a W) : wpList P ops Q (o :: rest) a W := h
theorem one_section (W : World) (g : Nat) (x : S62) (A1 : Option Addr) (c2 : Nat) (h0 : W.cell? ⟨g, 0, none⟩ = some (.int .i64 x.f0)) (h1 : W.cell? ⟨g, 1, none⟩ = some (.slice A1 x.f1.length c2)) (hle : x.f1.length ≤ c2) (hC : Kd.C k25 W A1 x.f1.length x.f1) :
    Kd.C k62 W (some ⟨g, 0, none⟩) [x].length [x] := by
  refine ⟨rfl, by simp, fun _ => ⟨_, rfl, fun j p hp => ?_⟩⟩
  cases j with
  | succ j => simp at hp
  | zero =>
    simp at hp
    subst hp
    refine ⟨[.int .i64 x.f0, .slice A1 x.f1.length c2], rfl, k62_mk W x hle hC, fun i u hu => ?_⟩
    match i, hu with
    | 0, hu => simp at hu; subst hu; exact h0
    | 1, hu => simp at hu; subst hu; exact h1
    | i + 2, hu => simp at hu
theorem less_j (n : Nat) (j : Int) (h0 : 1 < n) (h1 : n ≤ 9223372036854775807) (h : wrap64 ((n : Int) - 1) = j) : 0 ≤ j ∧ j ≤ n ∧ j.toNat = n - 1 := by unfold wrap64 at h; omega
def metrolablaw38_RunoutMoves_1.f (p0 p1 b0 b1 : Int) : Option (Int × Int) := some (wrap64 (b0 - p1), wrap64 (b1 + p0))
set_option maxHeartbeats 8000000 in
set_option maxRecDepth 100000 in
theorem metrolablaw38_RunoutMoves_1.calls_ (p0 p1 b0 b1 r1 r2 : Int) (g : Nat) (w : World) (hb : w.heap[g]? = some (.cells #[.int .i64 b0, .int .i64 b1] 25 (0, 0))) (h : metrolablaw38_RunoutMoves_1.f p0 p1 b0 b1 = some (r1, r2)) :
    Calls Try.prog 28 #[.agg #[.int .i64 p0, .int .i64 p1], .pointer (some ⟨g, 0, none⟩)] w fun e w' => e = .returned (.agg #[.int .i64 r1, .int .i64 r2]) ∧ Below w.heap.size w w' := by
  have h' := Option.some.inj h
  obtain ⟨rfl, rfl⟩ := Prod.mk.inj h'
  clear h h'
  have hg := blk_lt hb
  have hc0 : w.cell? ⟨g, 0, none⟩ = some (.int .i64 b0) := (blk_cell hb 0).trans rfl
  have hc1 : w.cell? ⟨g, 1, none⟩ = some (.int .i64 b1) := (blk_cell hb 1).trans rfl
  have hne : g ≠ w.heap.size := Nat.ne_of_lt hg
  go_enter Try.func28, Try.ntmps28
  go_wp2
  refine bodyPost_ret (results_cell_row rfl _ _ (w.heap.size + 1) 25 #[.int .i64 (wrap64 (b0 - p1)), .int .i64 (wrap64 (b1 + p0))] (0, 0) _ rfl ?_ Try.underlying25 rfl (by kernel_rfl)) rfl ?_
  · have := heap_alloc_new (w.alloc (.cells #[.int .i64 p0, .int .i64 p1] 25)) (.cells #[.int .i64 (wrap64 (b0 - p1)), .int .i64 (wrap64 (b1 + p0))] 25)
    simpa using this
  · exact ⟨rfl, ((Below.refl _ _).alloc (Nat.le_refl _) _).alloc (by simp) _⟩
mutual
def metrolablaw38_RunoutMoves.j0 : Nat → List (S62) → Bool → Int → Int → Int → Int → Option (Bool)
  | 0, _, _, _, _, _, _ => none
  | k + 1, x0, x29, x199000, x199001, x200000, x200001 => if x29 = true then ((metrolablaw38_awake.f).bind fun t202 => (some t202)) else (metrolablaw38_RunoutMoves.l0 k x0 ([] : List (S62)) x0 (x0.length : Int) 0 x199000 x199001 x200000 x200001)
def metrolablaw38_RunoutMoves.l0 : Nat → List (S62) → List (S62) → List (S62) → Int → Int → Int → Int → Int → Int → Option (Bool)
  | 0, _, _, _, _, _, _, _, _, _ => none
  | k + 1, x0, x8, x32, x33, x34, x199000, x199001, x200000, x200001 => if x34 < x33 then (if 0 ≤ x34 then (if x34 < (x32.length : Int) then (metrolablaw38_RunoutMoves.l1 k x0 x8 ([] : List (S25)) x32 x33 x34 ((rd_T62 x32 x34).f1) (((rd_T62 x32 x34).f1).length : Int) 0 x199000 x199001 x200000 x200001 ((rd_T62 x32 x34).f0) ((rd_T62 x32 x34).f1)) else (none)) else (none)) else ((runout_Least.f k x0 x199000 x199001).bind fun bt215 => (if bt215.2 = 0 then ((metrolablaw38_RunoutMoves_1.f x199000 x199001 x200000 x200001).bind fun bt217 => ((metrolablaw38_right.f k x8 bt217.1 bt217.2).bind fun t219 => (if t219 = true then ((metrolablaw38_RunoutMoves_1.f x199000 x199001 x200000 x200001).bind fun bt220 => ((runout_Least.f k x8 bt220.1 bt220.2).bind fun bt222 => (if bt222.2 = 0 then (if bt215.1 = bt222.1 then (metrolablaw38_RunoutMoves.j3 k x0 bt215.1 x199000 x199001) else (some false)) else (some false)))) else (metrolablaw38_RunoutMoves.j3 k x0 bt215.1 x199000 x199001)))) else (some false)))
def metrolablaw38_RunoutMoves.l1 : Nat → List (S62) → List (S62) → List (S25) → List (S62) → Int → Int → List (S25) → Int → Int → Int → Int → Int → Int → Int → List (S25) → Option (Bool)
  | 0, _, _, _, _, _, _, _, _, _, _, _, _, _, _, _ => none
  | k + 1, x0, x8, x11, x32, x33, x34, x39, x40, x41, x199000, x199001, x200000, x200001, x205000, x205001 => if x41 < x40 then (if 0 ≤ x41 then (if x41 < (x39.length : Int) then ((metrolablaw38_RunoutMoves_1.f ((rd_T25 x39 x41).f0) ((rd_T25 x39 x41).f1) x200000 x200001).bind fun bt207 => (if x11.length < 8796093022208 then (metrolablaw38_RunoutMoves.l1 k x0 x8 (x11 ++ [(⟨bt207.1, bt207.2⟩ : S25)]) x32 x33 x34 x39 x40 (wrap64 (x41 + 1)) x199000 x199001 x200000 x200001 x205000 x205001) else (none))) else (none)) else (none)) else (if x8.length < 4398046511104 then (metrolablaw38_RunoutMoves.l0 k x0 (x8 ++ [(⟨x205000, x11⟩ : S62)]) x32 x33 (wrap64 (x34 + 1)) x199000 x199001 x200000 x200001) else (none))
def metrolablaw38_RunoutMoves.j3 : Nat → List (S62) → Int → Int → Int → Option (Bool)
  | 0, _, _, _, _ => none
  | k + 1, x0, x14, x199000, x199001 => if 0 < (x0.length : Int) then (if (x0.length : Int) ≤ 100000 then ((runout_Least.f k (lessL x0) x199000 x199001).bind fun bt222 => (if bt222.2 = 0 then (if bt222.1 ≤ x14 then ((metrolablaw38_awake.f).bind fun t224 => (some t224)) else (none)) else (none))) else (none)) else (none)
end
def metrolablaw38_RunoutMoves.f (k : Nat) (l0 : List (S62)) (a1_0 : Int) (a1_1 : Int) (a2_0 : Int) (a2_1 : Int) : Option (Bool) := (metrolablaw38_right.f k l0 a1_0 a1_1).bind fun t200 => (if t200 = true then ((metrolabref07_Right.f a2_0 a2_1).bind fun t201 => (metrolablaw38_RunoutMoves.j0 k l0 (!t201) a1_0 a1_1 a2_0 a2_1)) else (metrolablaw38_RunoutMoves.j0 k l0 true a1_0 a1_1 a2_0 a2_1))
theorem metrolablaw38_RunoutMoves.mono_l : ∀ k, (∀ y0 y1 y2 y3 y4 y5, LeO (metrolablaw38_RunoutMoves.j0 k y0 y1 y2 y3 y4 y5) (metrolablaw38_RunoutMoves.j0 (k + 1) y0 y1 y2 y3 y4 y5)) ∧ (∀ y0 y1 y2 y3 y4 y5 y6 y7 y8, LeO (metrolablaw38_RunoutMoves.l0 k y0 y1 y2 y3 y4 y5 y6 y7 y8) (metrolablaw38_RunoutMoves.l0 (k + 1) y0 y1 y2 y3 y4 y5 y6 y7 y8)) ∧ (∀ y0 y1 y2 y3 y4 y5 y6 y7 y8 y9 y10 y11 y12 y13 y14, LeO (metrolablaw38_RunoutMoves.l1 k y0 y1 y2 y3 y4 y5 y6 y7 y8 y9 y10 y11 y12 y13 y14) (metrolablaw38_RunoutMoves.l1 (k + 1) y0 y1 y2 y3 y4 y5 y6 y7 y8 y9 y10 y11 y12 y13 y14)) ∧ (∀ y0 y1 y2 y3, LeO (metrolablaw38_RunoutMoves.j3 k y0 y1 y2 y3) (metrolablaw38_RunoutMoves.j3 (k + 1) y0 y1 y2 y3))
  | 0 => ⟨fun _ _ _ _ _ _ r h => by simp [metrolablaw38_RunoutMoves.j0] at h, fun _ _ _ _ _ _ _ _ _ r h => by simp [metrolablaw38_RunoutMoves.l0] at h, fun _ _ _ _ _ _ _ _ _ _ _ _ _ _ _ r h => by simp [metrolablaw38_RunoutMoves.l1] at h, fun _ _ _ _ r h => by simp [metrolablaw38_RunoutMoves.j3] at h⟩
  | k + 1 => by
    obtain ⟨ih0, ih1, ih2, ih3⟩ := metrolablaw38_RunoutMoves.mono_l k
    refine ⟨?_, ?_, ?_, ?_⟩
    · intro y0 y1 y2 y3 y4 y5
      unfold metrolablaw38_RunoutMoves.j0
      repeat' first
      | (with_reducible exact ih0 _ _ _ _ _ _)
      | (with_reducible exact ih1 _ _ _ _ _ _ _ _ _)
      | (with_reducible exact ih2 _ _ _ _ _ _ _ _ _ _ _ _ _ _ _)
      | (with_reducible exact ih3 _ _ _ _)
      | (with_reducible exact metrolablaw38_right.mono _ _ _ _)
      | (with_reducible exact runout_Least.mono _ _ _ _)
      | (with_reducible exact LeO.refl _)
      | (with_reducible exact LeO.none _)
      | (with_reducible refine LeO.ite ?_ ?_)
      | (with_reducible refine LeO.bind ?_ (fun _ => ?_))
      | exact ih0 _ _ _ _ _ _
      | exact ih1 _ _ _ _ _ _ _ _ _
      | exact ih2 _ _ _ _ _ _ _ _ _ _ _ _ _ _ _
      | exact ih3 _ _ _ _
      | exact metrolablaw38_right.mono _ _ _ _
      | exact runout_Least.mono _ _ _ _
      | exact LeO.none _
      | refine LeO.ite ?_ ?_
      | refine LeO.bind ?_ (fun _ => ?_)
    · intro y0 y1 y2 y3 y4 y5 y6 y7 y8
      unfold metrolablaw38_RunoutMoves.l0
      repeat' first
      | (with_reducible exact ih0 _ _ _ _ _ _)
      | (with_reducible exact ih1 _ _ _ _ _ _ _ _ _)
      | (with_reducible exact ih2 _ _ _ _ _ _ _ _ _ _ _ _ _ _ _)
      | (with_reducible exact ih3 _ _ _ _)
      | (with_reducible exact metrolablaw38_right.mono _ _ _ _)
      | (with_reducible exact runout_Least.mono _ _ _ _)
      | (with_reducible exact LeO.refl _)
      | (with_reducible exact LeO.none _)
      | (with_reducible refine LeO.ite ?_ ?_)
      | (with_reducible refine LeO.bind ?_ (fun _ => ?_))
      | exact ih0 _ _ _ _ _ _
      | exact ih1 _ _ _ _ _ _ _ _ _
      | exact ih2 _ _ _ _ _ _ _ _ _ _ _ _ _ _ _
      | exact ih3 _ _ _ _
      | exact metrolablaw38_right.mono _ _ _ _
      | exact runout_Least.mono _ _ _ _
      | exact LeO.none _
      | refine LeO.ite ?_ ?_
      | refine LeO.bind ?_ (fun _ => ?_)
    · intro y0 y1 y2 y3 y4 y5 y6 y7 y8 y9 y10 y11 y12 y13 y14
      unfold metrolablaw38_RunoutMoves.l1
      repeat' first
      | (with_reducible exact ih0 _ _ _ _ _ _)
      | (with_reducible exact ih1 _ _ _ _ _ _ _ _ _)
      | (with_reducible exact ih2 _ _ _ _ _ _ _ _ _ _ _ _ _ _ _)
      | (with_reducible exact ih3 _ _ _ _)
      | (with_reducible exact metrolablaw38_right.mono _ _ _ _)
      | (with_reducible exact runout_Least.mono _ _ _ _)
      | (with_reducible exact LeO.refl _)
      | (with_reducible exact LeO.none _)
      | (with_reducible refine LeO.ite ?_ ?_)
      | (with_reducible refine LeO.bind ?_ (fun _ => ?_))
      | exact ih0 _ _ _ _ _ _
      | exact ih1 _ _ _ _ _ _ _ _ _
      | exact ih2 _ _ _ _ _ _ _ _ _ _ _ _ _ _ _
      | exact ih3 _ _ _ _
      | exact metrolablaw38_right.mono _ _ _ _
      | exact runout_Least.mono _ _ _ _
      | exact LeO.none _
      | refine LeO.ite ?_ ?_
      | refine LeO.bind ?_ (fun _ => ?_)
    · intro y0 y1 y2 y3
      unfold metrolablaw38_RunoutMoves.j3
      repeat' first
      | (with_reducible exact ih0 _ _ _ _ _ _)
      | (with_reducible exact ih1 _ _ _ _ _ _ _ _ _)
      | (with_reducible exact ih2 _ _ _ _ _ _ _ _ _ _ _ _ _ _ _)
      | (with_reducible exact ih3 _ _ _ _)
      | (with_reducible exact metrolablaw38_right.mono _ _ _ _)
      | (with_reducible exact runout_Least.mono _ _ _ _)
      | (with_reducible exact LeO.refl _)
      | (with_reducible exact LeO.none _)
      | (with_reducible refine LeO.ite ?_ ?_)
      | (with_reducible refine LeO.bind ?_ (fun _ => ?_))
      | exact ih0 _ _ _ _ _ _
      | exact ih1 _ _ _ _ _ _ _ _ _
      | exact ih2 _ _ _ _ _ _ _ _ _ _ _ _ _ _ _
      | exact ih3 _ _ _ _
      | exact metrolablaw38_right.mono _ _ _ _
      | exact runout_Least.mono _ _ _ _
      | exact LeO.none _
      | refine LeO.ite ?_ ?_
      | refine LeO.bind ?_ (fun _ => ?_)
theorem metrolablaw38_RunoutMoves.mono : ∀ a0 a1 a2 a3 a4 k, LeO (metrolablaw38_RunoutMoves.f k a0 a1 a2 a3 a4) (metrolablaw38_RunoutMoves.f (k + 1) a0 a1 a2 a3 a4) := by
  intro a0 a1 a2 a3 a4 k
  obtain ⟨ih0, ih1, ih2, ih3⟩ := metrolablaw38_RunoutMoves.mono_l k
  unfold metrolablaw38_RunoutMoves.f
  repeat' first
      | (with_reducible exact ih0 _ _ _ _ _ _)
      | (with_reducible exact ih1 _ _ _ _ _ _ _ _ _)
      | (with_reducible exact ih2 _ _ _ _ _ _ _ _ _ _ _ _ _ _ _)
      | (with_reducible exact ih3 _ _ _ _)
      | (with_reducible exact metrolablaw38_right.mono _ _ _ _)
      | (with_reducible exact runout_Least.mono _ _ _ _)
      | (with_reducible exact LeO.refl _)
      | (with_reducible exact LeO.none _)
      | (with_reducible refine LeO.ite ?_ ?_)
      | (with_reducible refine LeO.bind ?_ (fun _ => ?_))
      | exact ih0 _ _ _ _ _ _
      | exact ih1 _ _ _ _ _ _ _ _ _
      | exact ih2 _ _ _ _ _ _ _ _ _ _ _ _ _ _ _
      | exact ih3 _ _ _ _
      | exact metrolablaw38_right.mono _ _ _ _
      | exact runout_Least.mono _ _ _ _
      | exact LeO.none _
      | refine LeO.ite ?_ ?_
      | refine LeO.bind ?_ (fun _ => ?_)
set_option maxHeartbeats 8000000 in
set_option maxRecDepth 100000 in
theorem metrolablaw38_RunoutMoves.calls (k : Nat) (A0 : Option Addr) (c0 : Nat) (l0 : List (S62)) (a1_0 : Int) (a1_1 : Int) (a2_0 : Int) (a2_1 : Int) (r : Bool) (w : World) (hr0 : Kd.C k62 w A0 l0.length l0) (hc0 : l0.length ≤ c0) (h : metrolablaw38_RunoutMoves.f k l0 a1_0 a1_1 a2_0 a2_1 = some r) :
    Calls Try.prog 8 #[.slice A0 l0.length c0, .agg #[.int .i64 a1_0, .int .i64 a1_1], .agg #[.int .i64 a2_0, .int .i64 a2_1]] w fun e w' => e = .returned (.bool r) ∧ Below w.heap.size w w' := by
  have hu25 := Try.underlying25
  have hu62 := Try.underlying62
  have HR0 := Aside0.mk hr0
  have HC0 := Aside0.mk hc0
  clear hr0 hc0
  have HB := Aside0.mk (Below.refl w.heap.size w)
  have H : ((metrolablaw38_right.f k l0 a1_0 a1_1).bind fun t200 => (if t200 = true then ((metrolabref07_Right.f a2_0 a2_1).bind fun t201 => (metrolablaw38_RunoutMoves.j0 k l0 (!t201) a1_0 a1_1 a2_0 a2_1)) else (metrolablaw38_RunoutMoves.j0 k l0 true a1_0 a1_1 a2_0 a2_1))) = some r := h
  clear h
  have HC4 := Aside0.mk H
  clear H
  go_enter Try.func8, Try.ntmps8
  go_upto_region 1 with (first | ((with_reducible refine gate_dst (N := 4) rfl ?_); refine box_event ?hg (N := 4) ?hd (cs := #[.int .i64 a1_0, .int .i64 a1_1]) (t := 25) ?hr ?_; (case hd => rfl); (case hg => rfl); (case hr => first | (go_simp; done) | (go_simp; rfl)); intro gb198 hg w5 hbox hb; have n0_ := Aside0.mk (below_step (by repeat (first | (with_reducible first | exact HB.out | apply below_alloc | apply pw_below_drewN | apply below_drew1) | exact HB.out)) hb); have n1_ := Aside0.mk (hbox); have n2_ := Aside0.mk ((by rw [hg]; exact (below_size (by repeat (first | (with_reducible first | exact HB.out | apply below_alloc | apply pw_below_drewN | apply below_drew1) | exact HB.out))) : w.heap.size ≤ gb198)); have n3_ := Aside0.mk ((by rw [hg]; exact (below_size (by repeat (first | (with_reducible first | exact HB.out | apply below_alloc | apply pw_below_drewN | apply below_drew1) | exact HB.out))) : w.heap.size ≤ gb198)); clear HB; have HB := n0_; have BK198 := n1_; have GW198 := n2_; have GE198 := n3_; clear n0_ n1_ n2_ n3_; clear hb hbox hg) | ((with_reducible refine gate_dst (N := 5) rfl ?_); refine box_event ?hg (N := 5) ?hd (cs := #[.int .i64 a2_0, .int .i64 a2_1]) (t := 25) ?hr ?_; (case hd => rfl); (case hg => rfl); (case hr => first | (go_simp; done) | (go_simp; rfl)); intro gb199 hg w6 hbox hb; have n0_ := Aside0.mk (blk_below (g := gb198) (o := .cells #[.int .i64 a1_0, .int .i64 a1_1] 25 (0, 0)) (by (with_reducible repeat (first | refine blk_drewN ?_ _ | refine blk_drew ?_ | refine blk_alloc ?_ _)); exact BK198.out) hb); have n1_ := Aside0.mk (below_step (by repeat (first | (with_reducible first | exact HB.out | apply below_alloc | apply pw_below_drewN | apply below_drew1 | refine below_set ?_ GE198.out) | exact HB.out)) hb); have n2_ := Aside0.mk (hbox); have n3_ := Aside0.mk ((by rw [hg]; exact (below_size (by repeat (first | (with_reducible first | exact HB.out | apply below_alloc | apply pw_below_drewN | apply below_drew1 | refine below_set ?_ GE198.out) | exact HB.out))) : w.heap.size ≤ gb199)); have n4_ := Aside0.mk ((by rw [hg]; exact (below_size (by repeat (first | (with_reducible first | exact HB.out | apply below_alloc | apply pw_below_drewN | apply below_drew1 | refine below_set ?_ GE198.out) | exact HB.out))) : w.heap.size ≤ gb199)); have n5_ := Aside0.mk ((by rw [hg]; exact Nat.ne_of_lt (blk_lt (g := gb198) (o := .cells #[.int .i64 a1_0, .int .i64 a1_1] 25 (0, 0)) (by (with_reducible repeat (first | refine blk_drewN ?_ _ | refine blk_drew ?_ | refine blk_alloc ?_ _)); exact BK198.out)) : gb198 ≠ gb199)); have n6_ := Aside0.mk ((by rw [hg]; exact Nat.ne_of_gt (blk_lt (g := gb198) (o := .cells #[.int .i64 a1_0, .int .i64 a1_1] 25 (0, 0)) (by (with_reducible repeat (first | refine blk_drewN ?_ _ | refine blk_drew ?_ | refine blk_alloc ?_ _)); exact BK198.out)) : gb199 ≠ gb198)); clear BK198; clear HB; have BK198 := n0_; have HB := n1_; have BK199 := n2_; have GW199 := n3_; have GE199 := n4_; have NB198_199 := n5_; have NB199_198 := n6_; clear n0_ n1_ n2_ n3_ n4_ n5_ n6_; clear hb hbox hg))
  (try simp only [Act.put, List.setIfInBounds_toArray, List.set_cons_zero, List.set_cons_succ])
  go_cut [29] (fun v29 wc => ∃ (kq : Nat) (x29_3 : Bool), v29 = .bool x29_3 ∧ Aside0 (metrolablaw38_RunoutMoves.j0 kq l0 x29_3 a1_0 a1_1 a2_0 a2_1 = some r) ∧ Aside0 (kq ≤ k) ∧ Aside0 (wc.heap[gb198]? = some (.cells #[.int .i64 a1_0, .int .i64 a1_1] 25 (0, 0))) ∧ Aside0 (wc.heap[gb199]? = some (.cells #[.int .i64 a2_0, .int .i64 a2_1] 25 (0, 0))) ∧ Aside0 (Below w.heap.size w wc))
  case first =>
    have H := HC4.out
    clear HC4
    replace H := Option.bind_eq_some_iff.mp H
    obtain ⟨t200, A70, H⟩ := H
    replace H : (if t200 = true then ((metrolabref07_Right.f a2_0 a2_1).bind fun t201 => (metrolablaw38_RunoutMoves.j0 k l0 (!t201) a1_0 a1_1 a2_0 a2_1)) else (metrolablaw38_RunoutMoves.j0 k l0 true a1_0 a1_1 a2_0 a2_1)) = some r := H
    have A7 := Aside0.mk A70
    clear A70
    by_cases c8 : t200 = true
    · subst c8
      have H1 : ((metrolabref07_Right.f a2_0 a2_1).bind fun t201 => (metrolablaw38_RunoutMoves.j0 k l0 (!t201) a1_0 a1_1 a2_0 a2_1)) = some r := by rw [if_pos rfl] at H; exact H
      clear H
      have H := H1
      clear H1
      replace H := Option.bind_eq_some_iff.mp H
      obtain ⟨t201, A90, H⟩ := H
      replace H : (metrolablaw38_RunoutMoves.j0 k l0 (!t201) a1_0 a1_1 a2_0 a2_1) = some r := H
      have A9 := Aside0.mk A90
      clear A90
      have H' := Aside0.mk H
      clear H
      have hnb10 := NB198_199.out
      have hnc10 := NB199_198.out
      have hcz11_0 : w6.cell? ⟨gb198, 0, none⟩ = some (.int .i64 a1_0) := (blk_cell BK198.out 0).trans rfl
      have hcz11_1 : w6.cell? ⟨gb198, 1, none⟩ = some (.int .i64 a1_1) := (blk_cell BK198.out 1).trans rfl
      have hfz11_0 := blk_frozen BK198.out 0
      have hfz11_1 := blk_frozen BK198.out 1
      go_wp2_with (first | ((with_reducible refine gate_callee (f := 26) rfl ?_); refine goesL_ (some 23) rfl rfl Try.func26 (by kernel_rfl) rfl #[.slice A0 l0.length c0, .agg #[.int .i64 a1_0, .int .i64 a1_1]] rfl (by (try simp only [List.map_toArray, List.map_cons, List.map_nil]); first | done | rfl | (simp only [List.length_drop, List.length_take]; rfl)) ?_; (with_reducible refine (metrolablaw38_right.calls k _ _ l0 a1_0 a1_1 true _ ?side1 ?side2 A7.out).mono ?_); (case side1 => repeat (first | exact (Kd.C_below HR0.out HB.out) | (with_reducible refine Kd.C_alloc ?_ _) | (with_reducible refine Kd.C_drewN ?_ _) | (with_reducible refine Kd.C_drew ?_))); (case side2 => exact HC0.out); rintro e w12 ⟨rfl, hb⟩; refine ⟨_, rfl, ?_⟩; have n0_ := Aside0.mk (blk_below (g := gb198) (o := .cells #[.int .i64 a1_0, .int .i64 a1_1] 25 (0, 0)) (by (with_reducible repeat (first | refine blk_drewN ?_ _ | refine blk_drew ?_ | refine blk_alloc ?_ _)); exact BK198.out) hb); have n1_ := Aside0.mk (blk_below (g := gb199) (o := .cells #[.int .i64 a2_0, .int .i64 a2_1] 25 (0, 0)) (by (with_reducible repeat (first | refine blk_drewN ?_ _ | refine blk_drew ?_ | refine blk_alloc ?_ _)); exact BK199.out) hb); have n2_ := Aside0.mk (below_step (by repeat (first | (with_reducible first | exact HB.out | apply below_alloc | apply pw_below_drewN | apply below_drew1 | refine below_set ?_ GE198.out | refine below_set ?_ GE199.out) | exact HB.out)) hb); clear BK198; clear BK199; clear HB; have BK198 := n0_; have BK199 := n1_; have HB := n2_; clear n0_ n1_ n2_; (try clear hb); (try clear hb2); (try clear hk); (try clear hi); have hcz13_0 : w12.cell? ⟨gb199, 0, none⟩ = some (.int .i64 a2_0) := (blk_cell BK199.out 0).trans rfl; have hcz13_1 : w12.cell? ⟨gb199, 1, none⟩ = some (.int .i64 a2_1) := (blk_cell BK199.out 1).trans rfl; have hfz13_0 := blk_frozen BK199.out 0; have hfz13_1 := blk_frozen BK199.out 1) | (go_at_call 27; (with_reducible refine (metrolabref07_Right.calls a2_0 a2_1 t201 _ A9.out).mono ?_); rintro e w14 ⟨rfl, hb⟩; have n0_ := Aside0.mk (blk_below (g := gb198) (o := .cells #[.int .i64 a1_0, .int .i64 a1_1] 25 (0, 0)) (by (with_reducible repeat (first | refine blk_drewN ?_ _ | refine blk_drew ?_ | refine blk_alloc ?_ _)); exact BK198.out) hb); have n1_ := Aside0.mk (blk_below (g := gb199) (o := .cells #[.int .i64 a2_0, .int .i64 a2_1] 25 (0, 0)) (by (with_reducible repeat (first | refine blk_drewN ?_ _ | refine blk_drew ?_ | refine blk_alloc ?_ _)); exact BK199.out) hb); have n2_ := Aside0.mk (below_step (by repeat (first | (with_reducible first | exact HB.out | apply below_alloc | apply pw_below_drewN | apply below_drew1 | refine below_set ?_ GE198.out | refine below_set ?_ GE199.out) | exact HB.out)) hb); clear BK198; clear BK199; clear HB; have BK198 := n0_; have BK199 := n1_; have HB := n2_; clear n0_ n1_ n2_; (try clear hb); (try clear hb2); (try clear hk); (try clear hi)))
      go_meet
      case rel => exact ⟨_, (!t201), (by first | rfl | (simp; done) | (simp [*]; done)), H', ⟨by first | omega | exact Nat.le_refl _⟩, ⟨by (with_reducible repeat (first | refine blk_drewN ?_ _ | refine blk_drew ?_ | refine blk_alloc ?_ _)); exact BK198.out⟩, ⟨by (with_reducible repeat (first | refine blk_drewN ?_ _ | refine blk_drew ?_ | refine blk_alloc ?_ _)); exact BK199.out⟩, ⟨by repeat (first | (with_reducible first | exact HB.out | apply below_alloc | apply pw_below_drewN | apply below_drew1 | refine below_set ?_ GE198.out | refine below_set ?_ GE199.out) | exact HB.out)⟩⟩
    · replace c8 := Bool.eq_false_iff.mpr c8
      subst c8
      have H1 : (metrolablaw38_RunoutMoves.j0 k l0 true a1_0 a1_1 a2_0 a2_1) = some r := by rw [if_neg (show ¬ (false = true) by decide)] at H; exact H
      clear H
      have H := H1
      clear H1
      have H' := Aside0.mk H
      clear H
      have hnb15 := NB198_199.out
      have hnc15 := NB199_198.out
      have hcz16_0 : w6.cell? ⟨gb198, 0, none⟩ = some (.int .i64 a1_0) := (blk_cell BK198.out 0).trans rfl
      have hcz16_1 : w6.cell? ⟨gb198, 1, none⟩ = some (.int .i64 a1_1) := (blk_cell BK198.out 1).trans rfl
      have hfz16_0 := blk_frozen BK198.out 0
      have hfz16_1 := blk_frozen BK198.out 1
      go_wp2_with (first | ((with_reducible refine gate_callee (f := 26) rfl ?_); refine goesL_ (some 23) rfl rfl Try.func26 (by kernel_rfl) rfl #[.slice A0 l0.length c0, .agg #[.int .i64 a1_0, .int .i64 a1_1]] rfl (by (try simp only [List.map_toArray, List.map_cons, List.map_nil]); first | done | rfl | (simp only [List.length_drop, List.length_take]; rfl)) ?_; (with_reducible refine (metrolablaw38_right.calls k _ _ l0 a1_0 a1_1 false _ ?side1 ?side2 A7.out).mono ?_); (case side1 => repeat (first | exact (Kd.C_below HR0.out HB.out) | (with_reducible refine Kd.C_alloc ?_ _) | (with_reducible refine Kd.C_drewN ?_ _) | (with_reducible refine Kd.C_drew ?_))); (case side2 => exact HC0.out); rintro e w17 ⟨rfl, hb⟩; refine ⟨_, rfl, ?_⟩; have n0_ := Aside0.mk (blk_below (g := gb198) (o := .cells #[.int .i64 a1_0, .int .i64 a1_1] 25 (0, 0)) (by (with_reducible repeat (first | refine blk_drewN ?_ _ | refine blk_drew ?_ | refine blk_alloc ?_ _)); exact BK198.out) hb); have n1_ := Aside0.mk (blk_below (g := gb199) (o := .cells #[.int .i64 a2_0, .int .i64 a2_1] 25 (0, 0)) (by (with_reducible repeat (first | refine blk_drewN ?_ _ | refine blk_drew ?_ | refine blk_alloc ?_ _)); exact BK199.out) hb); have n2_ := Aside0.mk (below_step (by repeat (first | (with_reducible first | exact HB.out | apply below_alloc | apply pw_below_drewN | apply below_drew1 | refine below_set ?_ GE198.out | refine below_set ?_ GE199.out) | exact HB.out)) hb); clear BK198; clear BK199; clear HB; have BK198 := n0_; have BK199 := n1_; have HB := n2_; clear n0_ n1_ n2_; (try clear hb); (try clear hb2); (try clear hk); (try clear hi)))
      go_meet
      case rel => exact ⟨_, (true), (by first | rfl | (simp; done) | (simp [*]; done)), H', ⟨by first | omega | exact Nat.le_refl _⟩, ⟨by (with_reducible repeat (first | refine blk_drewN ?_ _ | refine blk_drew ?_ | refine blk_alloc ?_ _)); exact BK198.out⟩, ⟨by (with_reducible repeat (first | refine blk_drewN ?_ _ | refine blk_drew ?_ | refine blk_alloc ?_ _)); exact BK199.out⟩, ⟨by repeat (first | (with_reducible first | exact HB.out | apply below_alloc | apply pw_below_drewN | apply below_drew1 | refine below_set ?_ GE198.out | refine below_set ?_ GE199.out) | exact HB.out)⟩⟩
  case rest =>
    clear HC4
    try clear c1
    try clear c2
    try clear p2
    try clear c8
    try clear c10
    try clear c15
    try clear hcz11_0
    try clear hcz11_1
    try clear hcz13_0
    try clear hcz13_1
    try clear hcz16_0
    try clear hcz16_1
    try clear hfz11_0
    try clear hfz11_1
    try clear hfz13_0
    try clear hfz13_1
    try clear hfz16_0
    try clear hfz16_1
    obtain ⟨kq, x29_3, rfl, HA, HJ3, BK198, BK199, HB⟩ := hcut
    cases kq with
    | zero => exact absurd HA.out (by simp [metrolablaw38_RunoutMoves.j0])
    | succ kj3 =>
      have H := HA.out
      clear HA
      simp only [metrolablaw38_RunoutMoves.j0] at H
      by_cases c18 : x29_3 = true
      · subst c18
        have H1 : ((metrolablaw38_awake.f).bind fun t202 => (some t202)) = some r := by rw [if_pos rfl] at H; exact H
        clear H
        have H := H1
        clear H1
        replace H := Option.bind_eq_some_iff.mp H
        obtain ⟨t202, A190, H⟩ := H
        replace H : (some t202) = some r := H
        have A19 := Aside0.mk A190
        clear A190
        obtain rfl := Option.some.inj H
        go_wp2_with (first | ((with_reducible refine gate_callee (f := 13) rfl ?_); refine goesL_ (some 30) rfl rfl Try.func13 (by kernel_rfl) rfl #[] rfl (by (try simp only [List.map_toArray, List.map_cons, List.map_nil]); first | done | rfl | (simp only [List.length_drop, List.length_take]; rfl)) ?_; (with_reducible refine (metrolablaw38_awake.calls  t202 _ A19.out).mono ?_); rintro e w20 ⟨rfl, hb⟩; refine ⟨_, rfl, ?_⟩; have n0_ := Aside0.mk (blk_below (g := gb198) (o := .cells #[.int .i64 a1_0, .int .i64 a1_1] 25 (0, 0)) (by (with_reducible repeat (first | refine blk_drewN ?_ _ | refine blk_drew ?_ | refine blk_alloc ?_ _)); exact BK198.out) hb); have n1_ := Aside0.mk (blk_below (g := gb199) (o := .cells #[.int .i64 a2_0, .int .i64 a2_1] 25 (0, 0)) (by (with_reducible repeat (first | refine blk_drewN ?_ _ | refine blk_drew ?_ | refine blk_alloc ?_ _)); exact BK199.out) hb); have n2_ := Aside0.mk (below_step (by repeat (first | (with_reducible first | exact HB.out | apply below_alloc | apply pw_below_drewN | apply below_drew1 | refine below_set ?_ GE198.out | refine below_set ?_ GE199.out) | exact HB.out)) hb); clear BK198; clear BK199; clear HB; have BK198 := n0_; have BK199 := n1_; have HB := n2_; clear n0_ n1_ n2_; (try clear hb); (try clear hb2); (try clear hk); (try clear hi)))
        go_ret
        exact ⟨by first | rfl | (simp [errW_none, errW_some] <;> rfl) | (simp [*, errW_none, errW_some] <;> rfl), by repeat (first | (with_reducible first | exact HB.out | apply below_alloc | apply pw_below_drewN | apply below_drew1 | refine below_set ?_ GE198.out | refine below_set ?_ GE199.out) | exact HB.out)⟩
      · replace c18 := Bool.eq_false_iff.mpr c18
        subst c18
        have H1 : (metrolablaw38_RunoutMoves.l0 kj3 l0 ([] : List (S62)) l0 (l0.length : Int) 0 a1_0 a1_1 a2_0 a2_1) = some r := by rw [if_neg (show ¬ (false = true) by decide)] at H; exact H
        clear H
        have H := H1
        clear H1
        have H' := Aside0.mk H
        clear H
        go_wp2
        go_loopg [8, 34] kj3 (fun kq v8 v34 w' => ∃ (x8_2 : List (S62)) (x34_2 : Int), v34 = .int .i64 x34_2 ∧ Aside0 (metrolablaw38_RunoutMoves.l0 kq l0 x8_2 l0 (l0.length : Int) x34_2 a1_0 a1_1 a2_0 a2_1 = some r) ∧ Aside0 (kq ≤ kj3) ∧ Aside0 (Kd.S k62 62 w' w.heap.size (fun k_ => k_ ≠ gb198 ∧ k_ ≠ gb199) v8 x8_2) ∧ Aside0 (w'.heap[gb198]? = some (.cells #[.int .i64 a1_0, .int .i64 a1_1] 25 (0, 0))) ∧ Aside0 (w'.heap[gb199]? = some (.cells #[.int .i64 a2_0, .int .i64 a2_1] 25 (0, 0))) ∧ Aside0 (Below w.heap.size w w'))
        case atStart => exact ⟨(([] : List (S62))), (0), (by first | rfl | (simp; done) | (simp [*]; done)), H', ⟨Nat.le_refl _⟩, ⟨by first | exact Kd.S_nil _ _ _ _ _ | exact Kd.N_nil _ _ _ _ _ | exact Kd.V_nil _ _ _ _ _ | exact Kd.Q_nil _ _ _ _ _ | exact Kd.R_nil _ _ _ _ _⟩, ⟨by (with_reducible repeat (first | refine blk_drewN ?_ _ | refine blk_drew ?_ | refine blk_alloc ?_ _)); exact BK198.out⟩, ⟨by (with_reducible repeat (first | refine blk_drewN ?_ _ | refine blk_drew ?_ | refine blk_alloc ?_ _)); exact BK199.out⟩, ⟨by repeat (first | (with_reducible first | exact HB.out | apply below_alloc | apply pw_below_drewN | apply below_drew1 | refine below_set ?_ GE198.out | refine below_set ?_ GE199.out) | exact HB.out)⟩⟩
        case round =>
          clear H'
          try clear c1
          try clear c2
          try clear p2
          try clear c8
          try clear c10
          try clear c13
          try clear c15
          try clear c18
          try clear hcz11_0
          try clear hcz11_1
          try clear hcz13_0
          try clear hcz13_1
          try clear hcz16_0
          try clear hcz16_1
          try clear hfz11_0
          try clear hfz11_1
          try clear hfz13_0
          try clear hfz13_1
          try clear hfz16_0
          try clear hfz16_1
          try clear p2
          obtain ⟨x8_2, x34_2, rfl, HA, HK2, HO_8, BK198, BK199, HB⟩ := hrel
          cases gk with
          | zero => exact absurd HA.out (by simp [metrolablaw38_RunoutMoves.l0])
          | succ k2 =>
            have H := HA.out
            clear HA
            simp only [metrolablaw38_RunoutMoves.l0] at H
            by_cases c21 : x34_2 < (l0.length : Int)
            · rw [if_pos c21] at H
              have c21b0 : decide (x34_2 < (l0.length : Int)) = true := decide_eq_true c21
              clear c21
              by_cases c22 : 0 ≤ x34_2
              · rw [if_pos c22] at H
                have c22b0 : decide (0 ≤ x34_2) = true := decide_eq_true c22
                clear c22
                by_cases c23 : x34_2 < (l0.length : Int)
                · rw [if_pos c23] at H
                  have c23b0 : decide (x34_2 < (l0.length : Int)) = true := decide_eq_true c23
                  clear c23
                  have H' := Aside0.mk H
                  clear H
                  have p203 : 0 ≤ (x34_2 : Int) := of_decide_eq_true (by first | (with_reducible assumption) | assumption)
                  have q203 : x34_2 < (l0.length : Int) := of_decide_eq_true (by first | (with_reducible assumption) | assumption)
                  obtain ⟨ad203, A203_1, c203_1, e203, hx203_0, hx203_1, hl203_1, hi203_1⟩ := at_T62 HR0.out x34_2 p203 q203
                  cases e203
                  replace hx203_0 := (HB.out.cell (World.block_lt_of_cell? w _ hx203_0)).trans hx203_0
                  replace hx203_1 := (HB.out.cell (World.block_lt_of_cell? w _ hx203_1)).trans hx203_1
                  have HR203_1 := Aside0.mk hi203_1
                  have HC203_1 := Aside0.mk hl203_1
                  clear hi203_1 hl203_1
                  replace p203 := eq_true p203
                  replace q203 := eq_true q203
                  go_wp2_with (first | ((with_reducible refine gate_dst (N := 10) rfl ?_); refine box_event ?hg (N := 10) ?hd (cs := #[.int .i64 0, .slice none 0 0]) (t := 62) ?hr ?_; (case hd => rfl); (case hg => rfl); (case hr => first | (go_simp; done) | (go_simp; rfl)); intro gb204 hg w24 hbox hb; have n0_ := Aside0.mk (Kd.S_below (Kd.S_elderB (by (with_reducible repeat (first | apply Kd.S_alloc | apply Kd.S_drewN | apply Kd.S_drew)); exact HO_8.out) gb204 (Nat.le_of_eq hg.symm)) hb); have n1_ := Aside0.mk (blk_below (g := gb198) (o := .cells #[.int .i64 a1_0, .int .i64 a1_1] 25 (0, 0)) (by (with_reducible repeat (first | refine blk_drewN ?_ _ | refine blk_drew ?_ | refine blk_alloc ?_ _)); exact BK198.out) hb); have n2_ := Aside0.mk (blk_below (g := gb199) (o := .cells #[.int .i64 a2_0, .int .i64 a2_1] 25 (0, 0)) (by (with_reducible repeat (first | refine blk_drewN ?_ _ | refine blk_drew ?_ | refine blk_alloc ?_ _)); exact BK199.out) hb); have n3_ := Aside0.mk (below_step (by repeat (first | (with_reducible first | exact HB.out | apply below_alloc | apply pw_below_drewN | apply below_drew1 | refine below_set ?_ GE198.out | refine below_set ?_ GE199.out) | exact HB.out)) hb); have n4_ := Aside0.mk (hbox); have n5_ := Aside0.mk ((by rw [hg]; exact (below_size (by repeat (first | (with_reducible first | exact HB.out | apply below_alloc | apply pw_below_drewN | apply below_drew1 | refine below_set ?_ GE198.out | refine below_set ?_ GE199.out) | exact HB.out))) : w.heap.size ≤ gb204)); have n6_ := Aside0.mk ((by rw [hg]; exact (below_size (by repeat (first | (with_reducible first | exact HB.out | apply below_alloc | apply pw_below_drewN | apply below_drew1 | refine below_set ?_ GE198.out | refine below_set ?_ GE199.out) | exact HB.out))) : w.heap.size ≤ gb204)); have n7_ := Aside0.mk ((by rw [hg]; exact Nat.ne_of_lt (blk_lt (g := gb198) (o := .cells #[.int .i64 a1_0, .int .i64 a1_1] 25 (0, 0)) (by (with_reducible repeat (first | refine blk_drewN ?_ _ | refine blk_drew ?_ | refine blk_alloc ?_ _)); exact BK198.out)) : gb198 ≠ gb204)); have n8_ := Aside0.mk ((by rw [hg]; exact Nat.ne_of_gt (blk_lt (g := gb198) (o := .cells #[.int .i64 a1_0, .int .i64 a1_1] 25 (0, 0)) (by (with_reducible repeat (first | refine blk_drewN ?_ _ | refine blk_drew ?_ | refine blk_alloc ?_ _)); exact BK198.out)) : gb204 ≠ gb198)); have n9_ := Aside0.mk ((by rw [hg]; exact Nat.ne_of_lt (blk_lt (g := gb199) (o := .cells #[.int .i64 a2_0, .int .i64 a2_1] 25 (0, 0)) (by (with_reducible repeat (first | refine blk_drewN ?_ _ | refine blk_drew ?_ | refine blk_alloc ?_ _)); exact BK199.out)) : gb199 ≠ gb204)); have n10_ := Aside0.mk ((by rw [hg]; exact Nat.ne_of_gt (blk_lt (g := gb199) (o := .cells #[.int .i64 a2_0, .int .i64 a2_1] 25 (0, 0)) (by (with_reducible repeat (first | refine blk_drewN ?_ _ | refine blk_drew ?_ | refine blk_alloc ?_ _)); exact BK199.out)) : gb204 ≠ gb199)); clear HO_8; clear BK198; clear BK199; clear HB; have HO_8 := n0_; have BK198 := n1_; have BK199 := n2_; have HB := n3_; have BK204 := n4_; have GW204 := n5_; have GE204 := n6_; have NB198_204 := n7_; have NB204_198 := n8_; have NB199_204 := n9_; have NB204_199 := n10_; clear n0_ n1_ n2_ n3_ n4_ n5_ n6_ n7_ n8_ n9_ n10_; clear hb hbox hg; have hnb25 := NB204_198.out; have hnc25 := NB198_204.out; have hnb26 := NB204_199.out; have hnc26 := NB199_204.out; have hcz27_0 : w24.cell? ⟨gb204, 0, none⟩ = some (.int .i64 0) := (blk_cell BK204.out 0).trans rfl; have hcz27_1 : w24.cell? ⟨gb204, 1, none⟩ = some (.slice none 0 0) := (blk_cell BK204.out 1).trans rfl; have hfz27_0 := blk_frozen BK204.out 0; have hfz27_1 := blk_frozen BK204.out 1))
                  go_loopg [11, 41] k2 (fun kq v11 v41 w' => ∃ (x11_3 : List (S25)) (x41_3 : Int), v41 = .int .i64 x41_3 ∧ Aside0 (metrolablaw38_RunoutMoves.l1 kq l0 x8_2 x11_3 l0 (l0.length : Int) x34_2 ((rd_T62 l0 x34_2).f1) (((rd_T62 l0 x34_2).f1).length : Int) x41_3 a1_0 a1_1 a2_0 a2_1 ((rd_T62 l0 x34_2).f0) ((rd_T62 l0 x34_2).f1) = some r) ∧ Aside0 (kq ≤ k2) ∧ Aside0 (Kd.S k62 62 w' w.heap.size (fun k_ => some k_ ≠ (v11 : Value).ownBlock ∧ k_ ≠ gb198 ∧ k_ ≠ gb199 ∧ k_ ≠ gb204) u8 x8_2) ∧ Aside0 (Kd.R k25 25 w' w.heap.size (fun k_ => k_ ≠ gb198 ∧ k_ ≠ gb199) v11 x11_3) ∧ Aside0 (w'.heap[gb198]? = some (.cells #[.int .i64 a1_0, .int .i64 a1_1] 25 (0, 0))) ∧ Aside0 (w'.heap[gb199]? = some (.cells #[.int .i64 a2_0, .int .i64 a2_1] 25 (0, 0))) ∧ Aside0 (w'.heap[gb204]? = some (.cells #[.int .i64 ((rd_T62 l0 x34_2).f0), (.slice A203_1 ((rd_T62 l0 x34_2).f1).length c203_1)] 62 (0, 0))) ∧ Aside0 (Below w.heap.size w w'))
                  case atStart => exact ⟨(([] : List (S25))), (0), (by first | rfl | (simp; done) | (simp [*]; done)), H', ⟨Nat.le_refl _⟩, ⟨by (with_reducible repeat (first | apply Kd.S_alloc | apply Kd.S_drewN | apply Kd.S_drew)); exact Kd.S_mono (Kd.S_far (p := ⟨gb204, 1, none⟩) (Kd.S_far (p := ⟨gb204, 0, none⟩) (Kd.S_mono HO_8.out (fun k_ hk => (⟨hk, hk.2⟩ : _ ∧ k_ ≠ gb204))) (fun _ hk => hk.2) (.int .i64 ((rd_T62 l0 x34_2).f0))) (fun _ hk => hk.2) (.slice A203_1 ((rd_T62 l0 x34_2).f1).length c203_1)) (fun _ hk => ⟨(by simp [Value.ownBlock]), ⟨hk.1.1.1, ⟨hk.1.1.2, hk.1.2⟩⟩⟩)⟩, ⟨by first | exact Kd.R_nil _ _ _ _ _ | exact Kd.N_nil _ _ _ _ _ | exact Kd.V_nil _ _ _ _ _ | exact Kd.Q_nil _ _ _ _ _ | exact Kd.S_nil _ _ _ _ _⟩, ⟨by (with_reducible repeat (first | refine blk_drewN ?_ _ | refine blk_drew ?_ | refine blk_alloc ?_ _)); refine blk_far ?_ NB198_204.out _; (with_reducible repeat (first | refine blk_drewN ?_ _ | refine blk_drew ?_ | refine blk_alloc ?_ _)); refine blk_far ?_ NB198_204.out _; (with_reducible repeat (first | refine blk_drewN ?_ _ | refine blk_drew ?_ | refine blk_alloc ?_ _)); exact BK198.out⟩, ⟨by (with_reducible repeat (first | refine blk_drewN ?_ _ | refine blk_drew ?_ | refine blk_alloc ?_ _)); refine blk_far ?_ NB199_204.out _; (with_reducible repeat (first | refine blk_drewN ?_ _ | refine blk_drew ?_ | refine blk_alloc ?_ _)); refine blk_far ?_ NB199_204.out _; (with_reducible repeat (first | refine blk_drewN ?_ _ | refine blk_drew ?_ | refine blk_alloc ?_ _)); exact BK199.out⟩, ⟨by (with_reducible repeat (first | refine blk_drewN ?_ _ | refine blk_drew ?_ | refine blk_alloc ?_ _)); refine blk_put (cs := #[.int .i64 ((rd_T62 l0 x34_2).f0), .slice none 0 0]) ?_ 1 _ rfl; (with_reducible repeat (first | refine blk_drewN ?_ _ | refine blk_drew ?_ | refine blk_alloc ?_ _)); refine blk_put (cs := #[.int .i64 0, .slice none 0 0]) ?_ 0 _ rfl; (with_reducible repeat (first | refine blk_drewN ?_ _ | refine blk_drew ?_ | refine blk_alloc ?_ _)); exact BK204.out⟩, ⟨by repeat (first | (with_reducible first | exact HB.out | apply below_alloc | apply pw_below_drewN | apply below_drew1 | refine below_set ?_ GE198.out | refine below_set ?_ GE199.out | refine below_set ?_ GE204.out) | exact HB.out)⟩⟩
                  case round =>
                    clear H'
                    try clear c1
                    try clear c2
                    try clear p2
                    try clear q2
                    try clear hx2
                    try clear c8
                    try clear c10
                    try clear c13
                    try clear c15
                    try clear c18
                    try clear c20
                    try clear p20
                    try clear q20
                    try clear hx20
                    try clear c21
                    try clear c21b0
                    try clear c22
                    try clear c22b0
                    try clear c23
                    try clear c23b0
                    try clear c25
                    try clear c26
                    try clear hcz11_0
                    try clear hcz11_1
                    try clear hcz13_0
                    try clear hcz13_1
                    try clear hcz16_0
                    try clear hcz16_1
                    try clear hcz27_0
                    try clear hcz27_1
                    try clear hfz11_0
                    try clear hfz11_1
                    try clear hfz13_0
                    try clear hfz13_1
                    try clear hfz16_0
                    try clear hfz16_1
                    try clear hfz27_0
                    try clear hfz27_1
                    try clear hx203_0
                    try clear hx203_1
                    try clear p2
                    try clear p203
                    try clear q203
                    obtain ⟨x11_3, x41_3, rfl, HA, HK3, HO_8, HO_11, BK198, BK199, BK204, HB⟩ := hrel
                    cases gk with
                    | zero => exact absurd HA.out (by simp [metrolablaw38_RunoutMoves.l1])
                    | succ k3 =>
                      have H := HA.out
                      clear HA
                      simp only [metrolablaw38_RunoutMoves.l1] at H
                      by_cases c28 : x41_3 < (((rd_T62 l0 x34_2).f1).length : Int)
                      · rw [if_pos c28] at H
                        have c28b0 : decide (x41_3 < (((rd_T62 l0 x34_2).f1).length : Int)) = true := decide_eq_true c28
                        clear c28
                        by_cases c29 : 0 ≤ x41_3
                        · rw [if_pos c29] at H
                          have c29b0 : decide (0 ≤ x41_3) = true := decide_eq_true c29
                          clear c29
                          by_cases c30 : x41_3 < (((rd_T62 l0 x34_2).f1).length : Int)
                          · rw [if_pos c30] at H
                            have c30b0 : decide (x41_3 < (((rd_T62 l0 x34_2).f1).length : Int)) = true := decide_eq_true c30
                            clear c30
                            replace H := Option.bind_eq_some_iff.mp H
                            obtain ⟨⟨t207, t208⟩, A310, H⟩ := H
                            replace H : (if x11_3.length < 8796093022208 then (metrolablaw38_RunoutMoves.l1 k3 l0 x8_2 (x11_3 ++ [(⟨t207, t208⟩ : S25)]) l0 (l0.length : Int) x34_2 ((rd_T62 l0 x34_2).f1) (((rd_T62 l0 x34_2).f1).length : Int) (wrap64 (x41_3 + 1)) a1_0 a1_1 a2_0 a2_1 ((rd_T62 l0 x34_2).f0) ((rd_T62 l0 x34_2).f1)) else (none)) = some r := H
                            have A31 := Aside0.mk A310
                            clear A310
                            by_cases c32 : x11_3.length < 8796093022208
                            · rw [if_pos c32] at H
                              have LMc32 := Aside0.mk c32
                              clear c32
                              obtain ⟨y209, hy209⟩ : ∃ y_ : List (S25), y_ = (x11_3 ++ [(⟨t207, t208⟩ : S25)]) := ⟨_, rfl⟩
                              replace H : (metrolablaw38_RunoutMoves.l1 k3 l0 x8_2 y209 l0 (l0.length : Int) x34_2 ((rd_T62 l0 x34_2).f1) (((rd_T62 l0 x34_2).f1).length : Int) (wrap64 (x41_3 + 1)) a1_0 a1_1 a2_0 a2_1 ((rd_T62 l0 x34_2).f0) ((rd_T62 l0 x34_2).f1)) = some r := by first | (rw [hy209]; with_reducible exact H) | (have H2_ := (Option.bind_some _ _).symm.trans H; rw [hy209]; with_reducible exact H2_) | (have H2_ := (Option.bind_some _ _).symm.trans H; with_reducible exact H2_) | with_reducible exact H | (rw [hy209]; exact H) | exact H
                              have Ny209 := Aside0.mk hy209
                              clear hy209
                              have H' := Aside0.mk H
                              clear H
                              have p205 : 0 ≤ (x41_3 : Int) := of_decide_eq_true (by first | (with_reducible assumption) | assumption)
                              have q205 : x41_3 < (((rd_T62 l0 x34_2).f1).length : Int) := of_decide_eq_true (by first | (with_reducible assumption) | assumption)
                              obtain ⟨ad205, e205, hx205_0, hx205_1⟩ := at_T25 HR203_1.out x41_3 p205 q205
                              cases e205
                              replace hx205_0 := (HB.out.cell (World.block_lt_of_cell? w _ hx205_0)).trans hx205_0
                              replace hx205_1 := (HB.out.cell (World.block_lt_of_cell? w _ hx205_1)).trans hx205_1
                              replace p205 := eq_true p205
                              replace q205 := eq_true q205
                              go_wp2_with (first | ((with_reducible refine gate_dst (N := 13) rfl ?_); refine box_event ?hg (N := 13) ?hd (cs := #[.int .i64 0, .int .i64 0]) (t := 25) ?hr ?_; (case hd => rfl); (case hg => rfl); (case hr => first | (go_simp; done) | (go_simp; rfl)); intro gb206 hg w33 hbox hb; have n0_ := Aside0.mk (Kd.S_below (Kd.S_elderB (by (with_reducible repeat (first | apply Kd.S_alloc | apply Kd.S_drewN | apply Kd.S_drew)); exact HO_8.out) gb206 (Nat.le_of_eq hg.symm)) hb); have n1_ := Aside0.mk (Kd.R_below (Kd.R_elderB (by (with_reducible repeat (first | apply Kd.R_alloc | apply Kd.R_drewN | apply Kd.R_drew)); exact HO_11.out) gb206 (Nat.le_of_eq hg.symm)) hb); have n2_ := Aside0.mk (blk_below (g := gb198) (o := .cells #[.int .i64 a1_0, .int .i64 a1_1] 25 (0, 0)) (by (with_reducible repeat (first | refine blk_drewN ?_ _ | refine blk_drew ?_ | refine blk_alloc ?_ _)); exact BK198.out) hb); have n3_ := Aside0.mk (blk_below (g := gb199) (o := .cells #[.int .i64 a2_0, .int .i64 a2_1] 25 (0, 0)) (by (with_reducible repeat (first | refine blk_drewN ?_ _ | refine blk_drew ?_ | refine blk_alloc ?_ _)); exact BK199.out) hb); have n4_ := Aside0.mk (blk_below (g := gb204) (o := .cells #[.int .i64 ((rd_T62 l0 x34_2).f0), .slice (some ad205) ((rd_T62 l0 x34_2).f1).length c203_1] 62 (0, 0)) (by (with_reducible repeat (first | refine blk_drewN ?_ _ | refine blk_drew ?_ | refine blk_alloc ?_ _)); exact BK204.out) hb); have n5_ := Aside0.mk (below_step (by repeat (first | (with_reducible first | exact HB.out | apply below_alloc | apply pw_below_drewN | apply below_drew1 | refine below_set ?_ GE198.out | refine below_set ?_ GE199.out | refine below_set ?_ GE204.out) | exact HB.out)) hb); have n6_ := Aside0.mk (hbox); have n7_ := Aside0.mk ((by rw [hg]; exact (below_size (by repeat (first | (with_reducible first | exact HB.out | apply below_alloc | apply pw_below_drewN | apply below_drew1 | refine below_set ?_ GE198.out | refine below_set ?_ GE199.out | refine below_set ?_ GE204.out) | exact HB.out))) : w.heap.size ≤ gb206)); have n8_ := Aside0.mk ((by rw [hg]; exact (below_size (by repeat (first | (with_reducible first | exact HB.out | apply below_alloc | apply pw_below_drewN | apply below_drew1 | refine below_set ?_ GE198.out | refine below_set ?_ GE199.out | refine below_set ?_ GE204.out) | exact HB.out))) : w.heap.size ≤ gb206)); have n9_ := Aside0.mk ((by rw [hg]; exact Nat.ne_of_lt (blk_lt (g := gb198) (o := .cells #[.int .i64 a1_0, .int .i64 a1_1] 25 (0, 0)) (by (with_reducible repeat (first | refine blk_drewN ?_ _ | refine blk_drew ?_ | refine blk_alloc ?_ _)); exact BK198.out)) : gb198 ≠ gb206)); have n10_ := Aside0.mk ((by rw [hg]; exact Nat.ne_of_gt (blk_lt (g := gb198) (o := .cells #[.int .i64 a1_0, .int .i64 a1_1] 25 (0, 0)) (by (with_reducible repeat (first | refine blk_drewN ?_ _ | refine blk_drew ?_ | refine blk_alloc ?_ _)); exact BK198.out)) : gb206 ≠ gb198)); have n11_ := Aside0.mk ((by rw [hg]; exact Nat.ne_of_lt (blk_lt (g := gb199) (o := .cells #[.int .i64 a2_0, .int .i64 a2_1] 25 (0, 0)) (by (with_reducible repeat (first | refine blk_drewN ?_ _ | refine blk_drew ?_ | refine blk_alloc ?_ _)); exact BK199.out)) : gb199 ≠ gb206)); have n12_ := Aside0.mk ((by rw [hg]; exact Nat.ne_of_gt (blk_lt (g := gb199) (o := .cells #[.int .i64 a2_0, .int .i64 a2_1] 25 (0, 0)) (by (with_reducible repeat (first | refine blk_drewN ?_ _ | refine blk_drew ?_ | refine blk_alloc ?_ _)); exact BK199.out)) : gb206 ≠ gb199)); have n13_ := Aside0.mk ((by rw [hg]; exact Nat.ne_of_lt (blk_lt (g := gb204) (o := .cells #[.int .i64 ((rd_T62 l0 x34_2).f0), .slice (some ad205) ((rd_T62 l0 x34_2).f1).length c203_1] 62 (0, 0)) (by (with_reducible repeat (first | refine blk_drewN ?_ _ | refine blk_drew ?_ | refine blk_alloc ?_ _)); exact BK204.out)) : gb204 ≠ gb206)); have n14_ := Aside0.mk ((by rw [hg]; exact Nat.ne_of_gt (blk_lt (g := gb204) (o := .cells #[.int .i64 ((rd_T62 l0 x34_2).f0), .slice (some ad205) ((rd_T62 l0 x34_2).f1).length c203_1] 62 (0, 0)) (by (with_reducible repeat (first | refine blk_drewN ?_ _ | refine blk_drew ?_ | refine blk_alloc ?_ _)); exact BK204.out)) : gb206 ≠ gb204)); clear HO_8; clear HO_11; clear BK198; clear BK199; clear BK204; clear HB; have HO_8 := n0_; have HO_11 := n1_; have BK198 := n2_; have BK199 := n3_; have BK204 := n4_; have HB := n5_; have BK206 := n6_; have GW206 := n7_; have GE206 := n8_; have NB198_206 := n9_; have NB206_198 := n10_; have NB199_206 := n11_; have NB206_199 := n12_; have NB204_206 := n13_; have NB206_204 := n14_; clear n0_ n1_ n2_ n3_ n4_ n5_ n6_ n7_ n8_ n9_ n10_ n11_ n12_ n13_ n14_; clear hb hbox hg; have hnb34 := NB206_198.out; have hnc34 := NB198_206.out; have hnb35 := NB206_199.out; have hnc35 := NB199_206.out; have hnb36 := NB206_204.out; have hnc36 := NB204_206.out; have hcz37_0 : w33.cell? ⟨gb206, 0, none⟩ = some (.int .i64 0) := (blk_cell BK206.out 0).trans rfl; have hcz37_1 : w33.cell? ⟨gb206, 1, none⟩ = some (.int .i64 0) := (blk_cell BK206.out 1).trans rfl; have hfz37_0 := blk_frozen BK206.out 0; have hfz37_1 := blk_frozen BK206.out 1; have hnb38 := NB199_198.out; have hnc38 := NB198_199.out; have hnb39 := NB199_204.out; have hnc39 := NB204_199.out; have hcz40_0 : w33.cell? ⟨gb199, 0, none⟩ = some (.int .i64 a2_0) := (blk_cell BK199.out 0).trans rfl; have hcz40_1 : w33.cell? ⟨gb199, 1, none⟩ = some (.int .i64 a2_1) := (blk_cell BK199.out 1).trans rfl; have hfz40_0 := blk_frozen BK199.out 0; have hfz40_1 := blk_frozen BK199.out 1) | ((with_reducible refine gate_value (n := 46) rfl ?_); refine goesV_ (some 48) rfl rfl Try.func28 (by kernel_rfl) rfl #[.agg #[.int .i64 ((rd_T25 ((rd_T62 l0 x34_2).f1) x41_3).f0), .int .i64 ((rd_T25 ((rd_T62 l0 x34_2).f1) x41_3).f1)]] #[.pointer (some ⟨gb199, 0, none⟩)] #[.agg #[.int .i64 ((rd_T25 ((rd_T62 l0 x34_2).f1) x41_3).f0), .int .i64 ((rd_T25 ((rd_T62 l0 x34_2).f1) x41_3).f1)], .pointer (some ⟨gb199, 0, none⟩)] rfl rfl (by (try simp only [List.map_toArray, List.map_cons, List.map_nil]); first | done | rfl) rfl ?_; (refine (metrolablaw38_RunoutMoves_1.calls_ ((rd_T25 ((rd_T62 l0 x34_2).f1) x41_3).f0) ((rd_T25 ((rd_T62 l0 x34_2).f1) x41_3).f1) a2_0 a2_1 t207 t208 gb199 _ (by (with_reducible repeat (first | refine blk_drewN ?_ _ | refine blk_drew ?_ | refine blk_alloc ?_ _)); refine blk_far ?_ NB199_206.out _; (with_reducible repeat (first | refine blk_drewN ?_ _ | refine blk_drew ?_ | refine blk_alloc ?_ _)); refine blk_far ?_ NB199_206.out _; (with_reducible repeat (first | refine blk_drewN ?_ _ | refine blk_drew ?_ | refine blk_alloc ?_ _)); exact BK199.out) A31.out).mono ?_); rintro e w41 ⟨rfl, hb⟩; refine ⟨_, rfl, ?_⟩; have n0_ := Aside0.mk (Kd.S_below (by (with_reducible repeat (first | apply Kd.S_alloc | apply Kd.S_drewN | apply Kd.S_drew)); exact (Kd.S_mono (Kd.S_far (p := ⟨gb206, 1, none⟩) (Kd.S_far (p := ⟨gb206, 0, none⟩) (Kd.S_mono HO_8.out (fun k_ hk => (⟨hk, hk.2⟩ : _ ∧ k_ ≠ gb206))) (fun _ hk => hk.2) (.int .i64 ((rd_T25 ((rd_T62 l0 x34_2).f1) x41_3).f0))) (fun _ hk => hk.2) (.int .i64 ((rd_T25 ((rd_T62 l0 x34_2).f1) x41_3).f1))) (fun _ h_ => h_.1))) hb); have n1_ := Aside0.mk (Kd.R_below (by (with_reducible repeat (first | apply Kd.R_alloc | apply Kd.R_drewN | apply Kd.R_drew)); exact (Kd.R_mono (Kd.R_far (p := ⟨gb206, 1, none⟩) (Kd.R_far (p := ⟨gb206, 0, none⟩) (Kd.R_mono HO_11.out (fun k_ hk => (⟨hk, hk.2⟩ : _ ∧ k_ ≠ gb206))) (fun _ hk => hk.2) (.int .i64 ((rd_T25 ((rd_T62 l0 x34_2).f1) x41_3).f0))) (fun _ hk => hk.2) (.int .i64 ((rd_T25 ((rd_T62 l0 x34_2).f1) x41_3).f1))) (fun _ h_ => h_.1))) hb); have n2_ := Aside0.mk (blk_below (g := gb198) (o := .cells #[.int .i64 a1_0, .int .i64 a1_1] 25 (0, 0)) (by (with_reducible repeat (first | refine blk_drewN ?_ _ | refine blk_drew ?_ | refine blk_alloc ?_ _)); refine blk_far ?_ NB198_206.out _; (with_reducible repeat (first | refine blk_drewN ?_ _ | refine blk_drew ?_ | refine blk_alloc ?_ _)); refine blk_far ?_ NB198_206.out _; (with_reducible repeat (first | refine blk_drewN ?_ _ | refine blk_drew ?_ | refine blk_alloc ?_ _)); exact BK198.out) hb); have n3_ := Aside0.mk (blk_below (g := gb199) (o := .cells #[.int .i64 a2_0, .int .i64 a2_1] 25 (0, 0)) (by (with_reducible repeat (first | refine blk_drewN ?_ _ | refine blk_drew ?_ | refine blk_alloc ?_ _)); refine blk_far ?_ NB199_206.out _; (with_reducible repeat (first | refine blk_drewN ?_ _ | refine blk_drew ?_ | refine blk_alloc ?_ _)); refine blk_far ?_ NB199_206.out _; (with_reducible repeat (first | refine blk_drewN ?_ _ | refine blk_drew ?_ | refine blk_alloc ?_ _)); exact BK199.out) hb); have n4_ := Aside0.mk (blk_below (g := gb204) (o := .cells #[.int .i64 ((rd_T62 l0 x34_2).f0), .slice (some ad205) ((rd_T62 l0 x34_2).f1).length c203_1] 62 (0, 0)) (by (with_reducible repeat (first | refine blk_drewN ?_ _ | refine blk_drew ?_ | refine blk_alloc ?_ _)); refine blk_far ?_ NB204_206.out _; (with_reducible repeat (first | refine blk_drewN ?_ _ | refine blk_drew ?_ | refine blk_alloc ?_ _)); refine blk_far ?_ NB204_206.out _; (with_reducible repeat (first | refine blk_drewN ?_ _ | refine blk_drew ?_ | refine blk_alloc ?_ _)); exact BK204.out) hb); have n5_ := Aside0.mk (blk_below (g := gb206) (o := .cells #[.int .i64 ((rd_T25 ((rd_T62 l0 x34_2).f1) x41_3).f0), .int .i64 ((rd_T25 ((rd_T62 l0 x34_2).f1) x41_3).f1)] 25 (0, 0)) (by (with_reducible repeat (first | refine blk_drewN ?_ _ | refine blk_drew ?_ | refine blk_alloc ?_ _)); refine blk_put (cs := #[.int .i64 ((rd_T25 ((rd_T62 l0 x34_2).f1) x41_3).f0), .int .i64 0]) ?_ 1 _ rfl; (with_reducible repeat (first | refine blk_drewN ?_ _ | refine blk_drew ?_ | refine blk_alloc ?_ _)); refine blk_put (cs := #[.int .i64 0, .int .i64 0]) ?_ 0 _ rfl; (with_reducible repeat (first | refine blk_drewN ?_ _ | refine blk_drew ?_ | refine blk_alloc ?_ _)); exact BK206.out) hb); have n6_ := Aside0.mk (below_step (by repeat (first | (with_reducible first | exact HB.out | apply below_alloc | apply pw_below_drewN | apply below_drew1 | refine below_set ?_ GE198.out | refine below_set ?_ GE199.out | refine below_set ?_ GE204.out | refine below_set ?_ GE206.out) | exact HB.out)) hb); clear HO_8; clear HO_11; clear BK198; clear BK199; clear BK204; clear BK206; clear HB; have HO_8 := n0_; have HO_11 := n1_; have BK198 := n2_; have BK199 := n3_; have BK204 := n4_; have BK206 := n5_; have HB := n6_; clear n0_ n1_ n2_ n3_ n4_ n5_ n6_; (try clear hb); (try clear hb2); (try clear hk); (try clear hi)) | ((with_reducible refine gate_builtin (b := .append) (xs := #[.tmp 45, .tmp 49]) rfl ?_); at_builtin; refine Kd.R_append k25 (w0 := w) w.heap.size rfl (.tmp 45) (.tmp 49) 23 25 (.agg #[(.int .i64 0), (.int .i64 0)]) 16 rfl Try.underlying23 info25 rfl (by decide) (by omega) u11 x11_3 (⟨t207, t208⟩ : S25) [.int .i64 t207, .int .i64 t208] (fun k_ => k_ ≠ gb198 ∧ k_ ≠ gb199 ∧ k_ ≠ gb206) (fun _ => False) rfl rfl ?aP (fun _ hk => hk.elim) ?aF ?aO ?aB ?aS ?aL ?_; (case aP => exact k25_mkM _ _ _ (⟨t207, t208⟩ : S25)); (case aB => exact (by repeat (first | (with_reducible first | exact HB.out | apply below_alloc | apply pw_below_drewN | apply below_drew1 | refine below_set ?_ GE198.out | refine below_set ?_ GE199.out | refine below_set ?_ GE204.out | refine below_set ?_ GE206.out) | exact HB.out))); (case aF => exact (fun k_ hk => ⟨Kd.freshB (g := gb198) (o := .cells #[.int .i64 a1_0, .int .i64 a1_1] 25 (0, 0)) (by (with_reducible repeat (first | refine blk_drewN ?_ _ | refine blk_drew ?_ | refine blk_alloc ?_ _)); exact BK198.out) k_ hk, Kd.freshB (g := gb199) (o := .cells #[.int .i64 a2_0, .int .i64 a2_1] 25 (0, 0)) (by (with_reducible repeat (first | refine blk_drewN ?_ _ | refine blk_drew ?_ | refine blk_alloc ?_ _)); exact BK199.out) k_ hk, Kd.freshB (g := gb206) (o := .cells #[.int .i64 ((rd_T25 ((rd_T62 l0 x34_2).f1) x41_3).f0), .int .i64 ((rd_T25 ((rd_T62 l0 x34_2).f1) x41_3).f1)] 25 (0, 0)) (by (with_reducible repeat (first | refine blk_drewN ?_ _ | refine blk_drew ?_ | refine blk_alloc ?_ _)); exact BK206.out) k_ hk⟩)); (case aO => exact (by (with_reducible repeat (first | apply Kd.R_alloc | apply Kd.R_drewN | apply Kd.R_drew)); exact Kd.R_mono HO_11.out (fun _ hk => ⟨hk.1.1, ⟨hk.1.2, hk.2⟩⟩))); (case aS => exact (below_size (by repeat (first | (with_reducible first | exact HB.out | apply below_alloc | apply pw_below_drewN | apply below_drew1 | refine below_set ?_ GE198.out | refine below_set ?_ GE199.out | refine below_set ?_ GE204.out | refine below_set ?_ GE206.out) | exact HB.out)))); (case aL => have := LMc32.out; omega); intro v210 w42 ho hb hg hat; rw [← Ny209.out] at ho; have n0_ := Aside0.mk (Kd.S_after (ok := (fun k_ => k_ ≠ gb198 ∧ k_ ≠ gb199 ∧ k_ ≠ gb204 ∧ k_ ≠ gb206)) (by (with_reducible repeat (first | apply Kd.S_alloc | apply Kd.S_drewN | apply Kd.S_drew)); exact Kd.S_mono HO_8.out (fun _ hk => ⟨⟨hk.1.2.1, ⟨hk.1.2.2.1, ⟨hk.1.2.2.2, hk.2⟩⟩⟩, hk.1.1⟩)) hg hat); have n1_ := Aside0.mk (blk_grown (g := gb198) (o := .cells #[.int .i64 a1_0, .int .i64 a1_1] 25 (0, 0)) (by (with_reducible repeat (first | refine blk_drewN ?_ _ | refine blk_drew ?_ | refine blk_alloc ?_ _)); exact BK198.out) hg (Kd.R_away HO_11.out (fun _ hk => hk.1.1))); have n2_ := Aside0.mk (blk_grown (g := gb199) (o := .cells #[.int .i64 a2_0, .int .i64 a2_1] 25 (0, 0)) (by (with_reducible repeat (first | refine blk_drewN ?_ _ | refine blk_drew ?_ | refine blk_alloc ?_ _)); exact BK199.out) hg (Kd.R_away HO_11.out (fun _ hk => hk.1.2))); have n3_ := Aside0.mk (blk_grown (g := gb204) (o := .cells #[.int .i64 ((rd_T62 l0 x34_2).f0), .slice (some ad205) ((rd_T62 l0 x34_2).f1).length c203_1] 62 (0, 0)) (by (with_reducible repeat (first | refine blk_drewN ?_ _ | refine blk_drew ?_ | refine blk_alloc ?_ _)); exact BK204.out) hg (Kd.R_ne HO_11.out BK204.out (by decide))); have n4_ := Aside0.mk (blk_grown (g := gb206) (o := .cells #[.int .i64 ((rd_T25 ((rd_T62 l0 x34_2).f1) x41_3).f0), .int .i64 ((rd_T25 ((rd_T62 l0 x34_2).f1) x41_3).f1)] 25 (0, 0)) (by (with_reducible repeat (first | refine blk_drewN ?_ _ | refine blk_drew ?_ | refine blk_alloc ?_ _)); exact BK206.out) hg (Kd.R_away HO_11.out (fun _ hk => hk.2))); have n5_ := Aside0.mk (hb); have n6_ := Aside0.mk (ho); clear HO_8; clear BK198; clear BK199; clear BK204; clear BK206; clear HB; clear HO_11; have HO_8 := n0_; have BK198 := n1_; have BK199 := n2_; have BK204 := n3_; have BK206 := n4_; have HB := n5_; have HO211 := n6_; clear n0_ n1_ n2_ n3_ n4_ n5_ n6_; clear ho hb hg hat))
                              go_roundg k3
                              case measure => have := HJ3.out; have := HK2.out; have := HK3.out; omega
                              case rel => exact ⟨(y209), (wrap64 (x41_3 + 1)), (by first | rfl | (simp; done) | (simp [*]; done)), H', ⟨by have := HJ3.out; have := HK2.out; have := HK3.out; omega⟩, ⟨by (with_reducible repeat (first | apply Kd.S_alloc | apply Kd.S_drewN | apply Kd.S_drew)); exact Kd.S_mono HO_8.out (fun _ hk => ⟨hk.2, ⟨hk.1.1, ⟨hk.1.2.1, hk.1.2.2.1⟩⟩⟩)⟩, ⟨by (with_reducible repeat (first | apply Kd.R_alloc | apply Kd.R_drewN | apply Kd.R_drew)); exact Kd.R_mono HO211.out (fun _ hk => ⟨hk.1, hk.2.1⟩)⟩, ⟨by (with_reducible repeat (first | refine blk_drewN ?_ _ | refine blk_drew ?_ | refine blk_alloc ?_ _)); exact BK198.out⟩, ⟨by (with_reducible repeat (first | refine blk_drewN ?_ _ | refine blk_drew ?_ | refine blk_alloc ?_ _)); exact BK199.out⟩, ⟨by (with_reducible repeat (first | refine blk_drewN ?_ _ | refine blk_drew ?_ | refine blk_alloc ?_ _)); exact BK204.out⟩, ⟨by repeat (first | (with_reducible first | exact HB.out | apply below_alloc | apply pw_below_drewN | apply below_drew1 | refine below_set ?_ GE198.out | refine below_set ?_ GE199.out | refine below_set ?_ GE204.out | refine below_set ?_ GE206.out) | exact HB.out)⟩⟩
                            · rw [if_neg c32] at H
                              exact absurd H (by simp)
                          · rw [if_neg c30] at H
                            exact absurd H (by simp)
                        · rw [if_neg c29] at H
                          exact absurd H (by simp)
                      · rw [if_neg c28] at H
                        have c28b0 : decide (x41_3 < (((rd_T62 l0 x34_2).f1).length : Int)) = false := decide_eq_false c28
                        clear c28
                        by_cases c43 : x8_2.length < 4398046511104
                        · rw [if_pos c43] at H
                          have LMc43 := Aside0.mk c43
                          clear c43
                          obtain ⟨y212, hy212⟩ : ∃ y_ : List (S62), y_ = (x8_2 ++ [(⟨((rd_T62 l0 x34_2).f0), x11_3⟩ : S62)]) := ⟨_, rfl⟩
                          replace H : (metrolablaw38_RunoutMoves.l0 k3 l0 y212 l0 (l0.length : Int) (wrap64 (x34_2 + 1)) a1_0 a1_1 a2_0 a2_1) = some r := by first | (rw [hy212]; with_reducible exact H) | (have H2_ := (Option.bind_some _ _).symm.trans H; rw [hy212]; with_reducible exact H2_) | (have H2_ := (Option.bind_some _ _).symm.trans H; with_reducible exact H2_) | with_reducible exact H | (rw [hy212]; exact H) | exact H
                          have Ny212 := Aside0.mk hy212
                          clear hy212
                          have H' := Aside0.mk H
                          clear H
                          have hnb44 := NB204_198.out
                          have hnc44 := NB198_204.out
                          have hnb45 := NB204_199.out
                          have hnc45 := NB199_204.out
                          have hcz46_0 : wr.cell? ⟨gb204, 0, none⟩ = some (.int .i64 ((rd_T62 l0 x34_2).f0)) := (blk_cell BK204.out 0).trans rfl
                          have hcz46_1 : wr.cell? ⟨gb204, 1, none⟩ = some (.slice A203_1 ((rd_T62 l0 x34_2).f1).length c203_1) := (blk_cell BK204.out 1).trans rfl
                          have hfz46_0 := blk_frozen BK204.out 0
                          have hfz46_1 := blk_frozen BK204.out 1
                          obtain ⟨Ao47, co47, eo47⟩ := Kd.R_slice HO_11.out
                          subst eo47
                          go_wp2_with (first | ((with_reducible refine gate_builtin (b := .append) (xs := #[.tmp 52, .tmp 57]) rfl ?_); at_builtin; refine Kd.S_append k62 (w0 := w) w.heap.size rfl (.tmp 52) (.tmp 57) 22 62 (.agg #[(.int .i64 0), (.slice none 0 0)]) 32 rfl Try.underlying22 info62 rfl (by decide) (by omega) u8 x8_2 (⟨((rd_T62 l0 x34_2).f0), x11_3⟩ : S62) [.int .i64 ((rd_T62 l0 x34_2).f0), .slice Ao47 x11_3.length co47] (fun k_ => k_ ≠ gb198 ∧ k_ ≠ gb199 ∧ k_ ≠ gb204) (fun k_ => some k_ = (.slice Ao47 x11_3.length co47 : Value).ownBlock) rfl rfl ?aP (fun k_ hk_ => ((Kd.R_mono (ok' := fun k_ => ((fun k_ => k_ ≠ gb198 ∧ k_ ≠ gb199 ∧ k_ ≠ gb204)) k_ ∧ some k_ ≠ (u8 : Value).ownBlock) (Kd.R_types (Kd.R_apart' (HO_11.out) (Kd.S_typed HO_8.out) (by decide)) BK204.out (by decide)) (fun k_ hk => ⟨⟨hk.1.1.1, ⟨hk.1.1.2, hk.2⟩⟩, hk.1.2⟩))).1 k_ hk_.symm) ?aF ?aO ?aB ?aS ?aL ?_; (case aP => exact k62_mkM _ _ _ (⟨((rd_T62 l0 x34_2).f0), x11_3⟩ : S62) (Kd.R_mono (Kd.R_tight rfl (Kd.R_mono (ok' := fun k_ => ((fun k_ => k_ ≠ gb198 ∧ k_ ≠ gb199 ∧ k_ ≠ gb204)) k_ ∧ some k_ ≠ (u8 : Value).ownBlock) (Kd.R_types (Kd.R_apart' (HO_11.out) (Kd.S_typed HO_8.out) (by decide)) BK204.out (by decide)) (fun k_ hk => ⟨⟨hk.1.1.1, ⟨hk.1.1.2, hk.2⟩⟩, hk.1.2⟩))) (fun _ h_ => h_))); (case aB => exact (by repeat (first | (with_reducible first | exact HB.out | apply below_alloc | apply pw_below_drewN | apply below_drew1 | refine below_set ?_ GE198.out | refine below_set ?_ GE199.out | refine below_set ?_ GE204.out) | exact HB.out))); (case aF => exact (fun k_ hk => ⟨Kd.freshB (g := gb198) (o := .cells #[.int .i64 a1_0, .int .i64 a1_1] 25 (0, 0)) (by (with_reducible repeat (first | refine blk_drewN ?_ _ | refine blk_drew ?_ | refine blk_alloc ?_ _)); exact BK198.out) k_ hk, Kd.freshB (g := gb199) (o := .cells #[.int .i64 a2_0, .int .i64 a2_1] 25 (0, 0)) (by (with_reducible repeat (first | refine blk_drewN ?_ _ | refine blk_drew ?_ | refine blk_alloc ?_ _)); exact BK199.out) k_ hk, Kd.freshB (g := gb204) (o := .cells #[.int .i64 ((rd_T62 l0 x34_2).f0), .slice A203_1 ((rd_T62 l0 x34_2).f1).length c203_1] 62 (0, 0)) (by (with_reducible repeat (first | refine blk_drewN ?_ _ | refine blk_drew ?_ | refine blk_alloc ?_ _)); exact BK204.out) k_ hk⟩)); (case aO => exact (by (with_reducible repeat (first | apply Kd.S_alloc | apply Kd.S_drewN | apply Kd.S_drew)); exact Kd.S_mono HO_8.out (fun k_ hk => ⟨⟨hk.2.1, ⟨hk.2.2.1, hk.2.2.2⟩⟩, fun e_ => hk.1 e_⟩))); (case aS => exact (below_size (by repeat (first | (with_reducible first | exact HB.out | apply below_alloc | apply pw_below_drewN | apply below_drew1 | refine below_set ?_ GE198.out | refine below_set ?_ GE199.out | refine below_set ?_ GE204.out) | exact HB.out)))); (case aL => have := LMc43.out; omega); intro v213 w48 ho hb hg hat; rw [← Ny212.out] at ho; have n0_ := Aside0.mk (blk_grown (g := gb198) (o := .cells #[.int .i64 a1_0, .int .i64 a1_1] 25 (0, 0)) (by (with_reducible repeat (first | refine blk_drewN ?_ _ | refine blk_drew ?_ | refine blk_alloc ?_ _)); exact BK198.out) hg (Kd.S_ne HO_8.out BK198.out (by decide))); have n1_ := Aside0.mk (blk_grown (g := gb199) (o := .cells #[.int .i64 a2_0, .int .i64 a2_1] 25 (0, 0)) (by (with_reducible repeat (first | refine blk_drewN ?_ _ | refine blk_drew ?_ | refine blk_alloc ?_ _)); exact BK199.out) hg (Kd.S_ne HO_8.out BK199.out (by decide))); have n2_ := Aside0.mk (blk_grown (g := gb204) (o := .cells #[.int .i64 ((rd_T62 l0 x34_2).f0), .slice A203_1 ((rd_T62 l0 x34_2).f1).length c203_1] 62 (0, 0)) (by (with_reducible repeat (first | refine blk_drewN ?_ _ | refine blk_drew ?_ | refine blk_alloc ?_ _)); exact BK204.out) hg (Kd.S_away HO_8.out (fun _ hk => hk.2.2.2))); have n3_ := Aside0.mk (hb); have n4_ := Aside0.mk (ho); clear BK198; clear BK199; clear BK204; clear HB; clear HO_8; clear HO_11; have BK198 := n0_; have BK199 := n1_; have BK204 := n2_; have HB := n3_; have HO214 := n4_; clear n0_ n1_ n2_ n3_ n4_; clear ho hb hg hat))
                          go_roundg k3
                          case measure => have := HJ3.out; have := HK2.out; have := HK3.out; omega
                          case rel => exact ⟨(y212), (wrap64 (x34_2 + 1)), (by first | rfl | (simp; done) | (simp [*]; done)), H', ⟨by have := HJ3.out; have := HK2.out; have := HK3.out; omega⟩, ⟨by (with_reducible repeat (first | apply Kd.S_alloc | apply Kd.S_drewN | apply Kd.S_drew)); exact Kd.S_mono HO214.out (fun _ hk => ⟨hk.1, hk.2.1⟩)⟩, ⟨by (with_reducible repeat (first | refine blk_drewN ?_ _ | refine blk_drew ?_ | refine blk_alloc ?_ _)); exact BK198.out⟩, ⟨by (with_reducible repeat (first | refine blk_drewN ?_ _ | refine blk_drew ?_ | refine blk_alloc ?_ _)); exact BK199.out⟩, ⟨by repeat (first | (with_reducible first | exact HB.out | apply below_alloc | apply pw_below_drewN | apply below_drew1 | refine below_set ?_ GE198.out | refine below_set ?_ GE199.out | refine below_set ?_ GE204.out) | exact HB.out)⟩⟩
                        · rw [if_neg c43] at H
                          exact absurd H (by simp)
                · rw [if_neg c23] at H
                  exact absurd H (by simp)
              · rw [if_neg c22] at H
                exact absurd H (by simp)
            · rw [if_neg c21] at H
              have c21b0 : decide (x34_2 < (l0.length : Int)) = false := decide_eq_false c21
              clear c21
              replace H := Option.bind_eq_some_iff.mp H
              obtain ⟨⟨t215, t216⟩, A490, H⟩ := H
              replace H : (if t216 = 0 then ((metrolablaw38_RunoutMoves_1.f a1_0 a1_1 a2_0 a2_1).bind fun bt217 => ((metrolablaw38_right.f k2 x8_2 bt217.1 bt217.2).bind fun t219 => (if t219 = true then ((metrolablaw38_RunoutMoves_1.f a1_0 a1_1 a2_0 a2_1).bind fun bt220 => ((runout_Least.f k2 x8_2 bt220.1 bt220.2).bind fun bt222 => (if bt222.2 = 0 then (if t215 = bt222.1 then (metrolablaw38_RunoutMoves.j3 k2 l0 t215 a1_0 a1_1) else (some false)) else (some false)))) else (metrolablaw38_RunoutMoves.j3 k2 l0 t215 a1_0 a1_1)))) else (some false)) = some r := H
              have A49 := Aside0.mk A490
              clear A490
              by_cases c50 : t216 = 0
              · rw [if_pos c50] at H
                have c50b0 : (t216 == 0) = true := beq_iff_eq.mpr c50
                have c50b1 : (t216 != 0) = false := bne_eq_false_iff_eq.mpr c50
                clear c50
                replace H := Option.bind_eq_some_iff.mp H
                obtain ⟨⟨t217, t218⟩, A510, H⟩ := H
                replace H : ((metrolablaw38_right.f k2 x8_2 t217 t218).bind fun t219 => (if t219 = true then ((metrolablaw38_RunoutMoves_1.f a1_0 a1_1 a2_0 a2_1).bind fun bt220 => ((runout_Least.f k2 x8_2 bt220.1 bt220.2).bind fun bt222 => (if bt222.2 = 0 then (if t215 = bt222.1 then (metrolablaw38_RunoutMoves.j3 k2 l0 t215 a1_0 a1_1) else (some false)) else (some false)))) else (metrolablaw38_RunoutMoves.j3 k2 l0 t215 a1_0 a1_1))) = some r := H
                have A51 := Aside0.mk A510
                clear A510
                replace H := Option.bind_eq_some_iff.mp H
                obtain ⟨t219, A520, H⟩ := H
                replace H : (if t219 = true then ((metrolablaw38_RunoutMoves_1.f a1_0 a1_1 a2_0 a2_1).bind fun bt220 => ((runout_Least.f k2 x8_2 bt220.1 bt220.2).bind fun bt222 => (if bt222.2 = 0 then (if t215 = bt222.1 then (metrolablaw38_RunoutMoves.j3 k2 l0 t215 a1_0 a1_1) else (some false)) else (some false)))) else (metrolablaw38_RunoutMoves.j3 k2 l0 t215 a1_0 a1_1)) = some r := H
                have A52 := Aside0.mk A520
                clear A520
                have HC53 := Aside0.mk H
                clear H
                have hnb54 := NB198_199.out
                have hnc54 := NB199_198.out
                have hcz55_0 : wr.cell? ⟨gb198, 0, none⟩ = some (.int .i64 a1_0) := (blk_cell BK198.out 0).trans rfl
                have hcz55_1 : wr.cell? ⟨gb198, 1, none⟩ = some (.int .i64 a1_1) := (blk_cell BK198.out 1).trans rfl
                have hfz55_0 := blk_frozen BK198.out 0
                have hfz55_1 := blk_frozen BK198.out 1
                go_upto_if 72 with (first | ((with_reducible refine gate_callee (f := 24) rfl ?_); refine goesL_ (some 63) rfl rfl Try.func24 (by kernel_rfl) rfl #[.slice A0 l0.length c0, .agg #[.int .i64 a1_0, .int .i64 a1_1]] rfl (by (try simp only [List.map_toArray, List.map_cons, List.map_nil]); first | done | rfl | (simp only [List.length_drop, List.length_take]; rfl)) ?_; (with_reducible refine (runout_Least.calls k2 _ _ l0 a1_0 a1_1 t215 t216 _ ?side1 ?side2 A49.out).mono ?_); (case side1 => repeat (first | exact (Kd.C_below HR0.out HB.out) | (with_reducible refine Kd.C_alloc ?_ _) | (with_reducible refine Kd.C_drewN ?_ _) | (with_reducible refine Kd.C_drew ?_))); (case side2 => exact HC0.out); rintro e w56 ⟨rfl, hb⟩; refine ⟨_, rfl, ?_⟩; have n0_ := Aside0.mk (Kd.S_below (by (with_reducible repeat (first | apply Kd.S_alloc | apply Kd.S_drewN | apply Kd.S_drew)); exact HO_8.out) hb); have n1_ := Aside0.mk (blk_below (g := gb198) (o := .cells #[.int .i64 a1_0, .int .i64 a1_1] 25 (0, 0)) (by (with_reducible repeat (first | refine blk_drewN ?_ _ | refine blk_drew ?_ | refine blk_alloc ?_ _)); exact BK198.out) hb); have n2_ := Aside0.mk (blk_below (g := gb199) (o := .cells #[.int .i64 a2_0, .int .i64 a2_1] 25 (0, 0)) (by (with_reducible repeat (first | refine blk_drewN ?_ _ | refine blk_drew ?_ | refine blk_alloc ?_ _)); exact BK199.out) hb); have n3_ := Aside0.mk (below_step (by repeat (first | (with_reducible first | exact HB.out | apply below_alloc | apply pw_below_drewN | apply below_drew1 | refine below_set ?_ GE198.out | refine below_set ?_ GE199.out) | exact HB.out)) hb); clear HO_8; clear BK198; clear BK199; clear HB; have HO_8 := n0_; have BK198 := n1_; have BK199 := n2_; have HB := n3_; clear n0_ n1_ n2_ n3_; (try clear hb); (try clear hb2); (try clear hk); (try clear hi); have hcz57_0 : w56.cell? ⟨gb199, 0, none⟩ = some (.int .i64 a2_0) := (blk_cell BK199.out 0).trans rfl; have hcz57_1 : w56.cell? ⟨gb199, 1, none⟩ = some (.int .i64 a2_1) := (blk_cell BK199.out 1).trans rfl; have hfz57_0 := blk_frozen BK199.out 0; have hfz57_1 := blk_frozen BK199.out 1; have hcz58_0 : w56.cell? ⟨gb198, 0, none⟩ = some (.int .i64 a1_0) := (blk_cell BK198.out 0).trans rfl; have hcz58_1 : w56.cell? ⟨gb198, 1, none⟩ = some (.int .i64 a1_1) := (blk_cell BK198.out 1).trans rfl; have hfz58_0 := blk_frozen BK198.out 0; have hfz58_1 := blk_frozen BK198.out 1) | ((with_reducible refine gate_value (n := 69) rfl ?_); refine goesV_ (some 71) rfl rfl Try.func28 (by kernel_rfl) rfl #[.agg #[.int .i64 a1_0, .int .i64 a1_1]] #[.pointer (some ⟨gb199, 0, none⟩)] #[.agg #[.int .i64 a1_0, .int .i64 a1_1], .pointer (some ⟨gb199, 0, none⟩)] rfl rfl (by (try simp only [List.map_toArray, List.map_cons, List.map_nil]); first | done | rfl) rfl ?_; (refine (metrolablaw38_RunoutMoves_1.calls_ a1_0 a1_1 a2_0 a2_1 t217 t218 gb199 _ (by (with_reducible repeat (first | refine blk_drewN ?_ _ | refine blk_drew ?_ | refine blk_alloc ?_ _)); exact BK199.out) A51.out).mono ?_); rintro e w59 ⟨rfl, hb⟩; refine ⟨_, rfl, ?_⟩; have n0_ := Aside0.mk (Kd.S_below (by (with_reducible repeat (first | apply Kd.S_alloc | apply Kd.S_drewN | apply Kd.S_drew)); exact HO_8.out) hb); have n1_ := Aside0.mk (blk_below (g := gb198) (o := .cells #[.int .i64 a1_0, .int .i64 a1_1] 25 (0, 0)) (by (with_reducible repeat (first | refine blk_drewN ?_ _ | refine blk_drew ?_ | refine blk_alloc ?_ _)); exact BK198.out) hb); have n2_ := Aside0.mk (blk_below (g := gb199) (o := .cells #[.int .i64 a2_0, .int .i64 a2_1] 25 (0, 0)) (by (with_reducible repeat (first | refine blk_drewN ?_ _ | refine blk_drew ?_ | refine blk_alloc ?_ _)); exact BK199.out) hb); have n3_ := Aside0.mk (below_step (by repeat (first | (with_reducible first | exact HB.out | apply below_alloc | apply pw_below_drewN | apply below_drew1 | refine below_set ?_ GE198.out | refine below_set ?_ GE199.out) | exact HB.out)) hb); clear HO_8; clear BK198; clear BK199; clear HB; have HO_8 := n0_; have BK198 := n1_; have BK199 := n2_; have HB := n3_; clear n0_ n1_ n2_ n3_; (try clear hb); (try clear hb2); (try clear hk); (try clear hi); obtain ⟨Ao60, co60, eo60⟩ := Kd.S_slice HO_8.out; subst eo60) | ((with_reducible refine gate_callee (f := 26) rfl ?_); refine goesL_ (some 72) rfl rfl Try.func26 (by kernel_rfl) rfl #[.slice Ao60 x8_2.length co60, .agg #[.int .i64 t217, .int .i64 t218]] rfl (by (try simp only [List.map_toArray, List.map_cons, List.map_nil]); first | done | rfl | (simp only [List.length_drop, List.length_take]; rfl)) ?_; (with_reducible refine (metrolablaw38_right.calls k2 _ _ x8_2 t217 t218 t219 _ ?side1 ?side2 A52.out).mono ?_); (case side1 => repeat (first | exact (Kd.S_reads' HO_8.out).2.2 | (with_reducible refine Kd.C_alloc ?_ _) | (with_reducible refine Kd.C_drewN ?_ _) | (with_reducible refine Kd.C_drew ?_))); (case side2 => exact (Kd.S_reads' HO_8.out).2.1); rintro e w61 ⟨rfl, hb⟩; refine ⟨_, rfl, ?_⟩; have n0_ := Aside0.mk (Kd.S_below (by (with_reducible repeat (first | apply Kd.S_alloc | apply Kd.S_drewN | apply Kd.S_drew)); exact HO_8.out) hb); have n1_ := Aside0.mk (blk_below (g := gb198) (o := .cells #[.int .i64 a1_0, .int .i64 a1_1] 25 (0, 0)) (by (with_reducible repeat (first | refine blk_drewN ?_ _ | refine blk_drew ?_ | refine blk_alloc ?_ _)); exact BK198.out) hb); have n2_ := Aside0.mk (blk_below (g := gb199) (o := .cells #[.int .i64 a2_0, .int .i64 a2_1] 25 (0, 0)) (by (with_reducible repeat (first | refine blk_drewN ?_ _ | refine blk_drew ?_ | refine blk_alloc ?_ _)); exact BK199.out) hb); have n3_ := Aside0.mk (below_step (by repeat (first | (with_reducible first | exact HB.out | apply below_alloc | apply pw_below_drewN | apply below_drew1 | refine below_set ?_ GE198.out | refine below_set ?_ GE199.out) | exact HB.out)) hb); clear HO_8; clear BK198; clear BK199; clear HB; have HO_8 := n0_; have BK198 := n1_; have BK199 := n2_; have HB := n3_; clear n0_ n1_ n2_ n3_; (try clear hb); (try clear hb2); (try clear hk); (try clear hi)))
                (try simp only [Act.put, List.setIfInBounds_toArray, List.set_cons_zero, List.set_cons_succ])
                go_cut [] (fun wc => ∃ (kq : Nat), Aside0 (metrolablaw38_RunoutMoves.j3 kq l0 t215 a1_0 a1_1 = some r) ∧ Aside0 (kq ≤ k2) ∧ Aside0 (wc.heap[gb198]? = some (.cells #[.int .i64 a1_0, .int .i64 a1_1] 25 (0, 0))) ∧ Aside0 (wc.heap[gb199]? = some (.cells #[.int .i64 a2_0, .int .i64 a2_1] 25 (0, 0))) ∧ Aside0 (Below w.heap.size w wc))
                case first =>
                  have H := HC53.out
                  clear HC53
                  by_cases c62 : t219 = true
                  · subst c62
                    have H1 : ((metrolablaw38_RunoutMoves_1.f a1_0 a1_1 a2_0 a2_1).bind fun bt220 => ((runout_Least.f k2 x8_2 bt220.1 bt220.2).bind fun bt222 => (if bt222.2 = 0 then (if t215 = bt222.1 then (metrolablaw38_RunoutMoves.j3 k2 l0 t215 a1_0 a1_1) else (some false)) else (some false)))) = some r := by rw [if_pos rfl] at H; exact H
                    clear H
                    have H := H1
                    clear H1
                    replace H := Option.bind_eq_some_iff.mp H
                    obtain ⟨⟨t220, t221⟩, A630, H⟩ := H
                    replace H : ((runout_Least.f k2 x8_2 t220 t221).bind fun bt222 => (if bt222.2 = 0 then (if t215 = bt222.1 then (metrolablaw38_RunoutMoves.j3 k2 l0 t215 a1_0 a1_1) else (some false)) else (some false))) = some r := H
                    have A63 := Aside0.mk A630
                    clear A630
                    replace H := Option.bind_eq_some_iff.mp H
                    obtain ⟨⟨t222, t223⟩, A640, H⟩ := H
                    replace H : (if t223 = 0 then (if t215 = t222 then (metrolablaw38_RunoutMoves.j3 k2 l0 t215 a1_0 a1_1) else (some false)) else (some false)) = some r := H
                    have A64 := Aside0.mk A640
                    clear A640
                    by_cases c65 : t223 = 0
                    · rw [if_pos c65] at H
                      have c65b0 : (t223 == 0) = true := beq_iff_eq.mpr c65
                      have c65b1 : (t223 != 0) = false := bne_eq_false_iff_eq.mpr c65
                      clear c65
                      (first | rw [c65b0] | (simp only [i64_w, i32_w]; rw [c65b0]) | skip)
                      by_cases c66 : t215 = t222
                      · rw [if_pos c66] at H
                        have c66b0 : (t215 == t222) = true := beq_iff_eq.mpr c66
                        have c66b1 : (t215 != t222) = false := bne_eq_false_iff_eq.mpr c66
                        clear c66
                        have H' := Aside0.mk H
                        clear H
                        have hnb67 := NB199_198.out
                        have hnc67 := NB198_199.out
                        have hcz68_0 : w61.cell? ⟨gb199, 0, none⟩ = some (.int .i64 a2_0) := (blk_cell BK199.out 0).trans rfl
                        have hcz68_1 : w61.cell? ⟨gb199, 1, none⟩ = some (.int .i64 a2_1) := (blk_cell BK199.out 1).trans rfl
                        have hfz68_0 := blk_frozen BK199.out 0
                        have hfz68_1 := blk_frozen BK199.out 1
                        have hcz69_0 : w61.cell? ⟨gb198, 0, none⟩ = some (.int .i64 a1_0) := (blk_cell BK198.out 0).trans rfl
                        have hcz69_1 : w61.cell? ⟨gb198, 1, none⟩ = some (.int .i64 a1_1) := (blk_cell BK198.out 1).trans rfl
                        have hfz69_0 := blk_frozen BK198.out 0
                        have hfz69_1 := blk_frozen BK198.out 1
                        go_wp2_with (first | ((with_reducible refine gate_value (n := 75) rfl ?_); refine goesV_ (some 77) rfl rfl Try.func28 (by kernel_rfl) rfl #[.agg #[.int .i64 a1_0, .int .i64 a1_1]] #[.pointer (some ⟨gb199, 0, none⟩)] #[.agg #[.int .i64 a1_0, .int .i64 a1_1], .pointer (some ⟨gb199, 0, none⟩)] rfl rfl (by (try simp only [List.map_toArray, List.map_cons, List.map_nil]); first | done | rfl) rfl ?_; (refine (metrolablaw38_RunoutMoves_1.calls_ a1_0 a1_1 a2_0 a2_1 t220 t221 gb199 _ (by (with_reducible repeat (first | refine blk_drewN ?_ _ | refine blk_drew ?_ | refine blk_alloc ?_ _)); exact BK199.out) A63.out).mono ?_); rintro e w70 ⟨rfl, hb⟩; refine ⟨_, rfl, ?_⟩; have n0_ := Aside0.mk (Kd.S_below (by (with_reducible repeat (first | apply Kd.S_alloc | apply Kd.S_drewN | apply Kd.S_drew)); exact HO_8.out) hb); have n1_ := Aside0.mk (blk_below (g := gb198) (o := .cells #[.int .i64 a1_0, .int .i64 a1_1] 25 (0, 0)) (by (with_reducible repeat (first | refine blk_drewN ?_ _ | refine blk_drew ?_ | refine blk_alloc ?_ _)); exact BK198.out) hb); have n2_ := Aside0.mk (blk_below (g := gb199) (o := .cells #[.int .i64 a2_0, .int .i64 a2_1] 25 (0, 0)) (by (with_reducible repeat (first | refine blk_drewN ?_ _ | refine blk_drew ?_ | refine blk_alloc ?_ _)); exact BK199.out) hb); have n3_ := Aside0.mk (below_step (by repeat (first | (with_reducible first | exact HB.out | apply below_alloc | apply pw_below_drewN | apply below_drew1 | refine below_set ?_ GE198.out | refine below_set ?_ GE199.out) | exact HB.out)) hb); clear HO_8; clear BK198; clear BK199; clear HB; have HO_8 := n0_; have BK198 := n1_; have BK199 := n2_; have HB := n3_; clear n0_ n1_ n2_ n3_; (try clear hb); (try clear hb2); (try clear hk); (try clear hi)) | ((with_reducible refine gate_callee (f := 24) rfl ?_); refine goesL_ (some 78) rfl rfl Try.func24 (by kernel_rfl) rfl #[.slice Ao60 x8_2.length co60, .agg #[.int .i64 t220, .int .i64 t221]] rfl (by (try simp only [List.map_toArray, List.map_cons, List.map_nil]); first | done | rfl | (simp only [List.length_drop, List.length_take]; rfl)) ?_; (with_reducible refine (runout_Least.calls k2 _ _ x8_2 t220 t221 t222 t223 _ ?side1 ?side2 A64.out).mono ?_); (case side1 => repeat (first | exact (Kd.S_reads' HO_8.out).2.2 | (with_reducible refine Kd.C_alloc ?_ _) | (with_reducible refine Kd.C_drewN ?_ _) | (with_reducible refine Kd.C_drew ?_))); (case side2 => exact (Kd.S_reads' HO_8.out).2.1); rintro e w71 ⟨rfl, hb⟩; refine ⟨_, rfl, ?_⟩; have n0_ := Aside0.mk (Kd.S_below (by (with_reducible repeat (first | apply Kd.S_alloc | apply Kd.S_drewN | apply Kd.S_drew)); exact HO_8.out) hb); have n1_ := Aside0.mk (blk_below (g := gb198) (o := .cells #[.int .i64 a1_0, .int .i64 a1_1] 25 (0, 0)) (by (with_reducible repeat (first | refine blk_drewN ?_ _ | refine blk_drew ?_ | refine blk_alloc ?_ _)); exact BK198.out) hb); have n2_ := Aside0.mk (blk_below (g := gb199) (o := .cells #[.int .i64 a2_0, .int .i64 a2_1] 25 (0, 0)) (by (with_reducible repeat (first | refine blk_drewN ?_ _ | refine blk_drew ?_ | refine blk_alloc ?_ _)); exact BK199.out) hb); have n3_ := Aside0.mk (below_step (by repeat (first | (with_reducible first | exact HB.out | apply below_alloc | apply pw_below_drewN | apply below_drew1 | refine below_set ?_ GE198.out | refine below_set ?_ GE199.out) | exact HB.out)) hb); clear HO_8; clear BK198; clear BK199; clear HB; have HO_8 := n0_; have BK198 := n1_; have BK199 := n2_; have HB := n3_; clear n0_ n1_ n2_ n3_; (try clear hb); (try clear hb2); (try clear hk); (try clear hi)))
                        go_meet
                        case rel => exact ⟨_, H', ⟨by have := HJ3.out; have := HK2.out; first | omega | exact Nat.le_refl _⟩, ⟨by (with_reducible repeat (first | refine blk_drewN ?_ _ | refine blk_drew ?_ | refine blk_alloc ?_ _)); exact BK198.out⟩, ⟨by (with_reducible repeat (first | refine blk_drewN ?_ _ | refine blk_drew ?_ | refine blk_alloc ?_ _)); exact BK199.out⟩, ⟨by repeat (first | (with_reducible first | exact HB.out | apply below_alloc | apply pw_below_drewN | apply below_drew1 | refine below_set ?_ GE198.out | refine below_set ?_ GE199.out) | exact HB.out)⟩⟩
                      · rw [if_neg c66] at H
                        have c66b0 : (t215 == t222) = false := beq_eq_false_iff_ne.mpr c66
                        have c66b1 : (t215 != t222) = true := bne_iff_ne.mpr c66
                        obtain rfl := Option.some.inj H
                        have hnb72 := NB199_198.out
                        have hnc72 := NB198_199.out
                        have hcz73_0 : w61.cell? ⟨gb199, 0, none⟩ = some (.int .i64 a2_0) := (blk_cell BK199.out 0).trans rfl
                        have hcz73_1 : w61.cell? ⟨gb199, 1, none⟩ = some (.int .i64 a2_1) := (blk_cell BK199.out 1).trans rfl
                        have hfz73_0 := blk_frozen BK199.out 0
                        have hfz73_1 := blk_frozen BK199.out 1
                        have hcz74_0 : w61.cell? ⟨gb198, 0, none⟩ = some (.int .i64 a1_0) := (blk_cell BK198.out 0).trans rfl
                        have hcz74_1 : w61.cell? ⟨gb198, 1, none⟩ = some (.int .i64 a1_1) := (blk_cell BK198.out 1).trans rfl
                        have hfz74_0 := blk_frozen BK198.out 0
                        have hfz74_1 := blk_frozen BK198.out 1
                        go_wp2_with (first | ((with_reducible refine gate_value (n := 75) rfl ?_); refine goesV_ (some 77) rfl rfl Try.func28 (by kernel_rfl) rfl #[.agg #[.int .i64 a1_0, .int .i64 a1_1]] #[.pointer (some ⟨gb199, 0, none⟩)] #[.agg #[.int .i64 a1_0, .int .i64 a1_1], .pointer (some ⟨gb199, 0, none⟩)] rfl rfl (by (try simp only [List.map_toArray, List.map_cons, List.map_nil]); first | done | rfl) rfl ?_; (refine (metrolablaw38_RunoutMoves_1.calls_ a1_0 a1_1 a2_0 a2_1 t220 t221 gb199 _ (by (with_reducible repeat (first | refine blk_drewN ?_ _ | refine blk_drew ?_ | refine blk_alloc ?_ _)); exact BK199.out) A63.out).mono ?_); rintro e w75 ⟨rfl, hb⟩; refine ⟨_, rfl, ?_⟩; have n0_ := Aside0.mk (Kd.S_below (by (with_reducible repeat (first | apply Kd.S_alloc | apply Kd.S_drewN | apply Kd.S_drew)); exact HO_8.out) hb); have n1_ := Aside0.mk (blk_below (g := gb198) (o := .cells #[.int .i64 a1_0, .int .i64 a1_1] 25 (0, 0)) (by (with_reducible repeat (first | refine blk_drewN ?_ _ | refine blk_drew ?_ | refine blk_alloc ?_ _)); exact BK198.out) hb); have n2_ := Aside0.mk (blk_below (g := gb199) (o := .cells #[.int .i64 a2_0, .int .i64 a2_1] 25 (0, 0)) (by (with_reducible repeat (first | refine blk_drewN ?_ _ | refine blk_drew ?_ | refine blk_alloc ?_ _)); exact BK199.out) hb); have n3_ := Aside0.mk (below_step (by repeat (first | (with_reducible first | exact HB.out | apply below_alloc | apply pw_below_drewN | apply below_drew1 | refine below_set ?_ GE198.out | refine below_set ?_ GE199.out) | exact HB.out)) hb); clear HO_8; clear BK198; clear BK199; clear HB; have HO_8 := n0_; have BK198 := n1_; have BK199 := n2_; have HB := n3_; clear n0_ n1_ n2_ n3_; (try clear hb); (try clear hb2); (try clear hk); (try clear hi)) | ((with_reducible refine gate_callee (f := 24) rfl ?_); refine goesL_ (some 78) rfl rfl Try.func24 (by kernel_rfl) rfl #[.slice Ao60 x8_2.length co60, .agg #[.int .i64 t220, .int .i64 t221]] rfl (by (try simp only [List.map_toArray, List.map_cons, List.map_nil]); first | done | rfl | (simp only [List.length_drop, List.length_take]; rfl)) ?_; (with_reducible refine (runout_Least.calls k2 _ _ x8_2 t220 t221 t222 t223 _ ?side1 ?side2 A64.out).mono ?_); (case side1 => repeat (first | exact (Kd.S_reads' HO_8.out).2.2 | (with_reducible refine Kd.C_alloc ?_ _) | (with_reducible refine Kd.C_drewN ?_ _) | (with_reducible refine Kd.C_drew ?_))); (case side2 => exact (Kd.S_reads' HO_8.out).2.1); rintro e w76 ⟨rfl, hb⟩; refine ⟨_, rfl, ?_⟩; have n0_ := Aside0.mk (Kd.S_below (by (with_reducible repeat (first | apply Kd.S_alloc | apply Kd.S_drewN | apply Kd.S_drew)); exact HO_8.out) hb); have n1_ := Aside0.mk (blk_below (g := gb198) (o := .cells #[.int .i64 a1_0, .int .i64 a1_1] 25 (0, 0)) (by (with_reducible repeat (first | refine blk_drewN ?_ _ | refine blk_drew ?_ | refine blk_alloc ?_ _)); exact BK198.out) hb); have n2_ := Aside0.mk (blk_below (g := gb199) (o := .cells #[.int .i64 a2_0, .int .i64 a2_1] 25 (0, 0)) (by (with_reducible repeat (first | refine blk_drewN ?_ _ | refine blk_drew ?_ | refine blk_alloc ?_ _)); exact BK199.out) hb); have n3_ := Aside0.mk (below_step (by repeat (first | (with_reducible first | exact HB.out | apply below_alloc | apply pw_below_drewN | apply below_drew1 | refine below_set ?_ GE198.out | refine below_set ?_ GE199.out) | exact HB.out)) hb); clear HO_8; clear BK198; clear BK199; clear HB; have HO_8 := n0_; have BK198 := n1_; have BK199 := n2_; have HB := n3_; clear n0_ n1_ n2_ n3_; (try clear hb); (try clear hb2); (try clear hk); (try clear hi)))
                        go_ret
                        exact ⟨by first | rfl | (simp [errW_none, errW_some] <;> rfl) | (simp [*, errW_none, errW_some] <;> rfl), by repeat (first | (with_reducible first | exact HB.out | apply below_alloc | apply pw_below_drewN | apply below_drew1 | refine below_set ?_ GE198.out | refine below_set ?_ GE199.out) | exact HB.out)⟩
                    · rw [if_neg c65] at H
                      have c65b0 : (t223 == 0) = false := beq_eq_false_iff_ne.mpr c65
                      have c65b1 : (t223 != 0) = true := bne_iff_ne.mpr c65
                      (first | rw [c65b0] | (simp only [i64_w, i32_w]; rw [c65b0]) | skip)
                      obtain rfl := Option.some.inj H
                      have hnb77 := NB199_198.out
                      have hnc77 := NB198_199.out
                      have hcz78_0 : w61.cell? ⟨gb199, 0, none⟩ = some (.int .i64 a2_0) := (blk_cell BK199.out 0).trans rfl
                      have hcz78_1 : w61.cell? ⟨gb199, 1, none⟩ = some (.int .i64 a2_1) := (blk_cell BK199.out 1).trans rfl
                      have hfz78_0 := blk_frozen BK199.out 0
                      have hfz78_1 := blk_frozen BK199.out 1
                      have hcz79_0 : w61.cell? ⟨gb198, 0, none⟩ = some (.int .i64 a1_0) := (blk_cell BK198.out 0).trans rfl
                      have hcz79_1 : w61.cell? ⟨gb198, 1, none⟩ = some (.int .i64 a1_1) := (blk_cell BK198.out 1).trans rfl
                      have hfz79_0 := blk_frozen BK198.out 0
                      have hfz79_1 := blk_frozen BK198.out 1
                      go_wp2_with (first | ((with_reducible refine gate_value (n := 75) rfl ?_); refine goesV_ (some 77) rfl rfl Try.func28 (by kernel_rfl) rfl #[.agg #[.int .i64 a1_0, .int .i64 a1_1]] #[.pointer (some ⟨gb199, 0, none⟩)] #[.agg #[.int .i64 a1_0, .int .i64 a1_1], .pointer (some ⟨gb199, 0, none⟩)] rfl rfl (by (try simp only [List.map_toArray, List.map_cons, List.map_nil]); first | done | rfl) rfl ?_; (refine (metrolablaw38_RunoutMoves_1.calls_ a1_0 a1_1 a2_0 a2_1 t220 t221 gb199 _ (by (with_reducible repeat (first | refine blk_drewN ?_ _ | refine blk_drew ?_ | refine blk_alloc ?_ _)); exact BK199.out) A63.out).mono ?_); rintro e w80 ⟨rfl, hb⟩; refine ⟨_, rfl, ?_⟩; have n0_ := Aside0.mk (Kd.S_below (by (with_reducible repeat (first | apply Kd.S_alloc | apply Kd.S_drewN | apply Kd.S_drew)); exact HO_8.out) hb); have n1_ := Aside0.mk (blk_below (g := gb198) (o := .cells #[.int .i64 a1_0, .int .i64 a1_1] 25 (0, 0)) (by (with_reducible repeat (first | refine blk_drewN ?_ _ | refine blk_drew ?_ | refine blk_alloc ?_ _)); exact BK198.out) hb); have n2_ := Aside0.mk (blk_below (g := gb199) (o := .cells #[.int .i64 a2_0, .int .i64 a2_1] 25 (0, 0)) (by (with_reducible repeat (first | refine blk_drewN ?_ _ | refine blk_drew ?_ | refine blk_alloc ?_ _)); exact BK199.out) hb); have n3_ := Aside0.mk (below_step (by repeat (first | (with_reducible first | exact HB.out | apply below_alloc | apply pw_below_drewN | apply below_drew1 | refine below_set ?_ GE198.out | refine below_set ?_ GE199.out) | exact HB.out)) hb); clear HO_8; clear BK198; clear BK199; clear HB; have HO_8 := n0_; have BK198 := n1_; have BK199 := n2_; have HB := n3_; clear n0_ n1_ n2_ n3_; (try clear hb); (try clear hb2); (try clear hk); (try clear hi)) | ((with_reducible refine gate_callee (f := 24) rfl ?_); refine goesL_ (some 78) rfl rfl Try.func24 (by kernel_rfl) rfl #[.slice Ao60 x8_2.length co60, .agg #[.int .i64 t220, .int .i64 t221]] rfl (by (try simp only [List.map_toArray, List.map_cons, List.map_nil]); first | done | rfl | (simp only [List.length_drop, List.length_take]; rfl)) ?_; (with_reducible refine (runout_Least.calls k2 _ _ x8_2 t220 t221 t222 t223 _ ?side1 ?side2 A64.out).mono ?_); (case side1 => repeat (first | exact (Kd.S_reads' HO_8.out).2.2 | (with_reducible refine Kd.C_alloc ?_ _) | (with_reducible refine Kd.C_drewN ?_ _) | (with_reducible refine Kd.C_drew ?_))); (case side2 => exact (Kd.S_reads' HO_8.out).2.1); rintro e w81 ⟨rfl, hb⟩; refine ⟨_, rfl, ?_⟩; have n0_ := Aside0.mk (Kd.S_below (by (with_reducible repeat (first | apply Kd.S_alloc | apply Kd.S_drewN | apply Kd.S_drew)); exact HO_8.out) hb); have n1_ := Aside0.mk (blk_below (g := gb198) (o := .cells #[.int .i64 a1_0, .int .i64 a1_1] 25 (0, 0)) (by (with_reducible repeat (first | refine blk_drewN ?_ _ | refine blk_drew ?_ | refine blk_alloc ?_ _)); exact BK198.out) hb); have n2_ := Aside0.mk (blk_below (g := gb199) (o := .cells #[.int .i64 a2_0, .int .i64 a2_1] 25 (0, 0)) (by (with_reducible repeat (first | refine blk_drewN ?_ _ | refine blk_drew ?_ | refine blk_alloc ?_ _)); exact BK199.out) hb); have n3_ := Aside0.mk (below_step (by repeat (first | (with_reducible first | exact HB.out | apply below_alloc | apply pw_below_drewN | apply below_drew1 | refine below_set ?_ GE198.out | refine below_set ?_ GE199.out) | exact HB.out)) hb); clear HO_8; clear BK198; clear BK199; clear HB; have HO_8 := n0_; have BK198 := n1_; have BK199 := n2_; have HB := n3_; clear n0_ n1_ n2_ n3_; (try clear hb); (try clear hb2); (try clear hk); (try clear hi)))
                      go_ret
                      exact ⟨by first | rfl | (simp [errW_none, errW_some] <;> rfl) | (simp [*, errW_none, errW_some] <;> rfl), by repeat (first | (with_reducible first | exact HB.out | apply below_alloc | apply pw_below_drewN | apply below_drew1 | refine below_set ?_ GE198.out | refine below_set ?_ GE199.out) | exact HB.out)⟩
                  · replace c62 := Bool.eq_false_iff.mpr c62
                    subst c62
                    have H1 : (metrolablaw38_RunoutMoves.j3 k2 l0 t215 a1_0 a1_1) = some r := by rw [if_neg (show ¬ (false = true) by decide)] at H; exact H
                    clear H
                    have H := H1
                    clear H1
                    have H' := Aside0.mk H
                    clear H
                    go_wp2
                    go_meet
                    case rel => exact ⟨_, H', ⟨by have := HJ3.out; have := HK2.out; first | omega | exact Nat.le_refl _⟩, ⟨by (with_reducible repeat (first | refine blk_drewN ?_ _ | refine blk_drew ?_ | refine blk_alloc ?_ _)); exact BK198.out⟩, ⟨by (with_reducible repeat (first | refine blk_drewN ?_ _ | refine blk_drew ?_ | refine blk_alloc ?_ _)); exact BK199.out⟩, ⟨by repeat (first | (with_reducible first | exact HB.out | apply below_alloc | apply pw_below_drewN | apply below_drew1 | refine below_set ?_ GE198.out | refine below_set ?_ GE199.out) | exact HB.out)⟩⟩
                case rest =>
                  clear HC53
                  try clear c1
                  try clear c2
                  try clear p2
                  try clear q2
                  try clear hx2
                  try clear c3
                  try clear c4
                  try clear c5
                  try clear c6
                  try clear p6
                  try clear c7
                  try clear c8
                  try clear c10
                  try clear c13
                  try clear c15
                  try clear c18
                  try clear c20
                  try clear p20
                  try clear q20
                  try clear hx20
                  try clear c21
                  try clear c21b0
                  try clear c22
                  try clear c22b0
                  try clear c23
                  try clear c23b0
                  try clear c24
                  try clear c25
                  try clear c26
                  try clear c28
                  try clear c28b0
                  try clear c29
                  try clear c29b0
                  try clear c30
                  try clear c30b0
                  try clear c32
                  try clear c34
                  try clear c35
                  try clear c36
                  try clear c38
                  try clear c39
                  try clear c43
                  try clear c44
                  try clear c45
                  try clear c50
                  try clear c50b0
                  try clear c50b1
                  try clear c54
                  try clear c62
                  try clear p64
                  try clear c65
                  try clear c65b0
                  try clear c65b1
                  try clear c66
                  try clear c66b0
                  try clear c66b1
                  try clear c67
                  try clear c72
                  try clear c77
                  try clear hcz11_0
                  try clear hcz11_1
                  try clear hcz13_0
                  try clear hcz13_1
                  try clear hcz16_0
                  try clear hcz16_1
                  try clear hcz27_0
                  try clear hcz27_1
                  try clear hcz37_0
                  try clear hcz37_1
                  try clear hcz40_0
                  try clear hcz40_1
                  try clear hcz46_0
                  try clear hcz46_1
                  try clear hcz55_0
                  try clear hcz55_1
                  try clear hcz57_0
                  try clear hcz57_1
                  try clear hcz58_0
                  try clear hcz58_1
                  try clear hcz68_0
                  try clear hcz68_1
                  try clear hcz69_0
                  try clear hcz69_1
                  try clear hcz73_0
                  try clear hcz73_1
                  try clear hcz74_0
                  try clear hcz74_1
                  try clear hcz78_0
                  try clear hcz78_1
                  try clear hcz79_0
                  try clear hcz79_1
                  try clear hfz11_0
                  try clear hfz11_1
                  try clear hfz13_0
                  try clear hfz13_1
                  try clear hfz16_0
                  try clear hfz16_1
                  try clear hfz27_0
                  try clear hfz27_1
                  try clear hfz37_0
                  try clear hfz37_1
                  try clear hfz40_0
                  try clear hfz40_1
                  try clear hfz46_0
                  try clear hfz46_1
                  try clear hfz55_0
                  try clear hfz55_1
                  try clear hfz57_0
                  try clear hfz57_1
                  try clear hfz58_0
                  try clear hfz58_1
                  try clear hfz68_0
                  try clear hfz68_1
                  try clear hfz69_0
                  try clear hfz69_1
                  try clear hfz73_0
                  try clear hfz73_1
                  try clear hfz74_0
                  try clear hfz74_1
                  try clear hfz78_0
                  try clear hfz78_1
                  try clear hfz79_0
                  try clear hfz79_1
                  try clear hx203_0
                  try clear hx203_1
                  try clear hx205_0
                  try clear hx205_1
                  try clear p2
                  try clear p20
                  try clear p203
                  try clear p205
                  try clear q2
                  try clear q20
                  try clear q203
                  try clear q205
                  obtain ⟨kq, HA, HJ52, BK198, BK199, HB⟩ := hcut
                  cases kq with
                  | zero => exact absurd HA.out (by simp [metrolablaw38_RunoutMoves.j3])
                  | succ kj52 =>
                    have H := HA.out
                    clear HA
                    simp only [metrolablaw38_RunoutMoves.j3] at H
                    by_cases g1 : 0 < (l0.length : Int)
                    case neg => rw [if_neg g1] at H; cases H
                    rw [if_pos g1] at H
                    by_cases g2 : (l0.length : Int) ≤ 100000
                    case neg => rw [if_neg g2] at H; cases H
                    rw [if_pos g2] at H
                    replace H := Option.bind_eq_some_iff.mp H
                    obtain ⟨⟨z1, z2⟩, hL, H⟩ := H
                    replace H : (if z2 = 0 then (if z1 ≤ t215 then ((metrolablaw38_awake.f).bind fun t230 => (some t230)) else none) else none) = some r := H
                    by_cases g3 : z2 = 0
                    case neg => rw [if_neg g3] at H; cases H
                    rw [if_pos g3] at H
                    subst g3
                    by_cases g4 : z1 ≤ t215
                    case neg => rw [if_neg g4] at H; cases H
                    rw [if_pos g4] at H
                    obtain rfl : true = r := Option.some.inj H
                    clear H
                    obtain ⟨y, hy⟩ : ∃ y, y = lessL l0 := ⟨_, rfl⟩
                    rw [← hy] at hL
                    have HL := Aside0.mk hL
                    have HY := Aside0.mk hy
                    have HG := Aside0.mk (show 0 < l0.length ∧ l0.length ≤ 100000 from by omega)
                    have d4 : decide (z1 ≤ t215) = true := decide_eq_true g4
                    clear hL hy g1 g2 g4
                    go_upto_region 24 with (go_at_call 29; refine (runout_Section.calls_ A0 c0 l0 _ (Kd.C_below HR0.out HB.out) HG.out.1 HG.out.2).mono ?_; rintro e w91 ⟨g, c1, cur, rfl, hc1, hg, hh, hcs, hC, hcp, hb⟩)
                    have hszc := HB.out.size
                    have hgB : w.heap.size ≤ g := Nat.le_trans hszc hg
                    have HB2 := Aside0.mk (HB.out.trans (hb.mono hszc))
                    have hl198 := blk_lt BK198.out
                    have hne : gb198 ≠ g := by omega
                    have hne2 : g ≠ gb198 := by omega
                    have hx0 : w91.cell? ⟨gb198, 0, none⟩ = some (.int .i64 a1_0) := (hb.cell (p := ⟨gb198, 0, none⟩) hl198).trans ((blk_cell BK198.out 0).trans rfl)
                    have hx1 : w91.cell? ⟨gb198, 1, none⟩ = some (.int .i64 a1_1) := (hb.cell (p := ⟨gb198, 1, none⟩) hl198).trans ((blk_cell BK198.out 1).trans rfl)
                    have HH := Aside0.mk hh
                    have HCP := Aside0.mk hcp
                    have HCC := Aside0.mk hC
                    have HG1 := Aside0.mk hgB
                    clear hh hcp hC hcs hg hgB hszc hl198 hb
                    by_cases h1 : 1 < l0.length
                    · have d1 : decide (1 < (l0.length : Int)) = true := decide_eq_true (by omega)
                      have d2 : decide (1 < l0.length) = true := decide_eq_true h1
                      have q1 : (1 : Int) ≤ ((l0.length : Int) : Int) := by omega
                      obtain ⟨i088, hi088, _, hsz88, _⟩ := info_parts info62
                      have hcut := cut_from (P := Try.prog) 22 62 .i64 Try.underlying22 hi088 2 hsz88 (some ⟨g, 0, none⟩) l0.length c1 1 (by omega) q1
                      have hr := Kd.C_drop (m := (1 : Int).toNat) (c := c1) HCC.out (by omega) hc1
                      obtain ⟨A88, hA88⟩ : ∃ A1, A1 = (if c1 = (1 : Int).toNat then (some ⟨g, 0, none⟩ : Option Addr) else (some ⟨g, 0, none⟩ : Option Addr).map (·.add ((1 : Int).toNat * 2))) := ⟨_, rfl⟩
                      obtain ⟨c88, hc88⟩ : ∃ c2, c2 = c1 - (1 : Int).toNat := ⟨_, rfl⟩
                      have hyd : y = l0.drop (1 : Int).toNat := by rw [HY.out]; exact if_pos h1
                      have hyl : y.length = l0.length - (1 : Int).toNat := by rw [hyd, List.length_drop]
                      rw [← hyd] at hr
                      replace hr : Kd.C k62 w91 A88 y.length y := (by rw [hA88]; exact hr)
                      rw [← hyl, ← hA88, ← hc88] at hcut
                      have HRY := Aside0.mk hr
                      have HCY := Aside0.mk (show y.length ≤ c88 from by rw [hyl, hc88]; exact Nat.sub_le_sub_right hc1 _)
                      clear hr hi088 hsz88 hc88 hA88 hyl hyd h1
                      replace q1 := eq_true q1
                      go_wp2_with (first | (go_at_call 24; refine (runout_Least.calls kj52 A88 c88 y a1_0 a1_1 z1 0 _ HRY.out HCY.out HL.out).mono ?_; rintro e w92 ⟨rfl, hb92⟩) | (go_at_call 13; refine (metrolablaw38_awake.calls true _ rfl).mono ?_; rintro e w93 ⟨rfl, hb93⟩))
                      go_ret
                      have HB3 := HB2.out.trans (hb92.mono HB2.out.size)
                      exact ⟨rfl, HB3.trans (hb93.mono HB3.size)⟩
                    · have d1 : decide (1 < (l0.length : Int)) = false := decide_eq_false (by omega)
                      have d2 : decide (1 < l0.length) = false := decide_eq_false h1
                      have hl1 : l0.length = 1 := by have := HG.out.1; omega
                      have d3 : decide (0 < (l0.length : Int)) = true := decide_eq_true (by omega)
                      have p0 : (0 : Int) ≤ 0 := Int.le_refl _
                      have q0 : (0 : Int) < (l0.length : Int) := by omega
                      obtain ⟨ad, A1, c2, hA0, hy0, hy1, hle, hC25⟩ := at_T62 HR0.out 0 p0 q0
                      have qi : (0 < l0.length) = True := eq_true (by omega)
                      have qj : ((0 : Int) < (l0.length : Int)) = True := eq_true q0
                      rw [← add_field _ _ 1 (by omega)] at hy1
                      simp only [Int.toNat_zero, Nat.zero_mul, Nat.zero_add] at hy0 hy1
                      obtain ⟨s, hs⟩ : ∃ s, s = rd_T62 l0 0 := ⟨_, rfl⟩
                      rw [← hs] at hy0 hy1 hle hC25
                      have hk0 : w91.cell? ⟨g, 0, none⟩ = some (.int .i64 s.f0) := (HCP.out ad 0 hA0 (by omega)).trans ((HB.out.cell (World.block_lt_of_cell? w _ hy0)).trans hy0)
                      have hk1 : w91.cell? ⟨g, 1, none⟩ = some (.slice A1 s.f1.length c2) := (HCP.out ad 1 hA0 (by omega)).trans ((HB.out.cell (World.block_lt_of_cell? w _ hy1)).trans hy1)
                      have hf0 := blk_frozen HH.out 0
                      have hf1 := blk_frozen HH.out 1
                      have hyc : y = [cutS s] := by rw [HY.out, hs]; exact if_neg h1
                      have HC5 := Aside0.mk hC25
                      clear hy0 hy1 hA0 p0 h1
                      by_cases h2 : 1 < s.f1.length
                      · have d5 : decide (1 < (s.f1.length : Int)) = true := decide_eq_true (by omega)
                        have d6 : decide (1 < s.f1.length) = true := decide_eq_true h2
                        obtain ⟨j, hj⟩ : ∃ j, wrap64 ((s.f1.length : Int) - 1) = j := ⟨_, rfl⟩
                        obtain ⟨j0, j1, j2⟩ := less_j _ j h2 HC5.out.2.1 hj
                        have hjw : IntKind.i64.wrap ((s.f1.length : Int) - 1) = j := (i64_w _).trans hj
                        obtain ⟨i089, hi089, _, _, _⟩ := info_parts info25
                        have hcut := cut_to (P := Try.prog) 23 25 .i64 Try.underlying23 hi089 A1 s.f1.length c2 j j0 j1 hle
                        have hcs : cutS s = ⟨s.f0, s.f1.take j.toNat⟩ := by unfold cutS; rw [if_pos h2, j2]
                        rw [hcs] at hyc
                        have hpl : (s.f1.take j.toNat).length = j.toNat := by rw [List.length_take]; omega
                        have hz0 : (w91.setCell ⟨g, 1, none⟩ (.slice A1 j.toNat c2)).cell? ⟨g, 0, none⟩ = some (.int .i64 s.f0) := (World.cell?_setCell_other _ _ _ _ (by simp)).trans hk0
                        have hz1 : (w91.setCell ⟨g, 1, none⟩ (.slice A1 j.toNat c2)).cell? ⟨g, 1, none⟩ = some (.slice A1 j.toNat c2) := World.cell?_setCell_same _ _ _ hk1
                        have HB3 := Aside0.mk (below_set (j := 1) (v := .slice A1 j.toNat c2) HB2.out HG1.out)
                        have hCt : Kd.C k25 (w91.setCell ⟨g, 1, none⟩ (.slice A1 j.toNat c2)) A1 (s.f1.take j.toNat).length (s.f1.take j.toNat) := Kd.C_below (Kd.C_take HC5.out (by omega)) HB3.out
                        have hC1 := one_section _ g ⟨s.f0, s.f1.take j.toNat⟩ A1 c2 hz0 (by rw [hz1]; simp only [hpl]) (by simp only [hpl]; omega) hCt
                        rw [← hyc] at hC1
                        have hyl : y.length = 1 := by rw [hyc]; rfl
                        have HCA := Aside0.mk (show Calls Try.prog 24 #[.slice (some ⟨g, 0, none⟩) 1 c1, .agg #[.int .i64 a1_0, .int .i64 a1_1]] _ _ from by
                          have := runout_Least.calls kj52 (some ⟨g, 0, none⟩) c1 y a1_0 a1_1 z1 0 _ hC1 (by omega) HL.out
                          rw [hyl] at this
                          exact this)
                        clear hz0 hz1 hCt hC1 hyl hcs hyc j0 j1 j2 hle hs HC5 hj h2
                        go_wp2_with (first | (go_at_call 24; refine HCA.out.mono ?_; rintro e w92 ⟨rfl, hb92⟩) | (go_at_call 13; refine (metrolablaw38_awake.calls true _ rfl).mono ?_; rintro e w93 ⟨rfl, hb93⟩))
                        go_ret
                        have HB4 := HB3.out.trans (hb92.mono HB3.out.size)
                        exact ⟨rfl, HB4.trans (hb93.mono HB4.size)⟩
                      · have d5 : decide (1 < (s.f1.length : Int)) = false := decide_eq_false (by omega)
                        have d6 : decide (1 < s.f1.length) = false := decide_eq_false h2
                        have hcs : cutS s = s := by unfold cutS; rw [if_neg h2]
                        rw [hcs] at hyc
                        have hC1 := one_section w91 g s A1 c2 hk0 hk1 hle (Kd.C_below HC5.out HB2.out)
                        rw [← hyc] at hC1
                        have hyl : y.length = 1 := by rw [hyc]; rfl
                        have HCA := Aside0.mk (show Calls Try.prog 24 #[.slice (some ⟨g, 0, none⟩) 1 c1, .agg #[.int .i64 a1_0, .int .i64 a1_1]] _ _ from by
                          have := runout_Least.calls kj52 (some ⟨g, 0, none⟩) c1 y a1_0 a1_1 z1 0 _ hC1 (by omega) HL.out
                          rw [hyl] at this
                          exact this)
                        clear hC1 hyl hcs hyc hle hs HC5 h2
                        go_wp2_with (first | (go_at_call 24; refine HCA.out.mono ?_; rintro e w92 ⟨rfl, hb92⟩) | (go_at_call 13; refine (metrolablaw38_awake.calls true _ rfl).mono ?_; rintro e w93 ⟨rfl, hb93⟩))
                        go_ret
                        have HB4 := HB2.out.trans (hb92.mono HB2.out.size)
                        exact ⟨rfl, HB4.trans (hb93.mono HB4.size)⟩
              · rw [if_neg c50] at H
                have c50b0 : (t216 == 0) = false := beq_eq_false_iff_ne.mpr c50
                have c50b1 : (t216 != 0) = true := bne_iff_ne.mpr c50
                obtain rfl := Option.some.inj H
                have hnb137 := NB198_199.out
                have hnc137 := NB199_198.out
                have hcz138_0 : wr.cell? ⟨gb198, 0, none⟩ = some (.int .i64 a1_0) := (blk_cell BK198.out 0).trans rfl
                have hcz138_1 : wr.cell? ⟨gb198, 1, none⟩ = some (.int .i64 a1_1) := (blk_cell BK198.out 1).trans rfl
                have hfz138_0 := blk_frozen BK198.out 0
                have hfz138_1 := blk_frozen BK198.out 1
                go_wp2_with (first | ((with_reducible refine gate_callee (f := 24) rfl ?_); refine goesL_ (some 63) rfl rfl Try.func24 (by kernel_rfl) rfl #[.slice A0 l0.length c0, .agg #[.int .i64 a1_0, .int .i64 a1_1]] rfl (by (try simp only [List.map_toArray, List.map_cons, List.map_nil]); first | done | rfl | (simp only [List.length_drop, List.length_take]; rfl)) ?_; (with_reducible refine (runout_Least.calls k2 _ _ l0 a1_0 a1_1 t215 t216 _ ?side1 ?side2 A49.out).mono ?_); (case side1 => repeat (first | exact (Kd.C_below HR0.out HB.out) | (with_reducible refine Kd.C_alloc ?_ _) | (with_reducible refine Kd.C_drewN ?_ _) | (with_reducible refine Kd.C_drew ?_))); (case side2 => exact HC0.out); rintro e w139 ⟨rfl, hb⟩; refine ⟨_, rfl, ?_⟩; have n0_ := Aside0.mk (Kd.S_below (by (with_reducible repeat (first | apply Kd.S_alloc | apply Kd.S_drewN | apply Kd.S_drew)); exact HO_8.out) hb); have n1_ := Aside0.mk (blk_below (g := gb198) (o := .cells #[.int .i64 a1_0, .int .i64 a1_1] 25 (0, 0)) (by (with_reducible repeat (first | refine blk_drewN ?_ _ | refine blk_drew ?_ | refine blk_alloc ?_ _)); exact BK198.out) hb); have n2_ := Aside0.mk (blk_below (g := gb199) (o := .cells #[.int .i64 a2_0, .int .i64 a2_1] 25 (0, 0)) (by (with_reducible repeat (first | refine blk_drewN ?_ _ | refine blk_drew ?_ | refine blk_alloc ?_ _)); exact BK199.out) hb); have n3_ := Aside0.mk (below_step (by repeat (first | (with_reducible first | exact HB.out | apply below_alloc | apply pw_below_drewN | apply below_drew1 | refine below_set ?_ GE198.out | refine below_set ?_ GE199.out) | exact HB.out)) hb); clear HO_8; clear BK198; clear BK199; clear HB; have HO_8 := n0_; have BK198 := n1_; have BK199 := n2_; have HB := n3_; clear n0_ n1_ n2_ n3_; (try clear hb); (try clear hb2); (try clear hk); (try clear hi)))
                go_ret
                exact ⟨by first | rfl | (simp [errW_none, errW_some] <;> rfl) | (simp [*, errW_none, errW_some] <;> rfl), by repeat (first | (with_reducible first | exact HB.out | apply below_alloc | apply pw_below_drewN | apply below_drew1 | refine below_set ?_ GE198.out | refine below_set ?_ GE199.out) | exact HB.out)⟩

end Go.Proofs.Ytkpojbglckmddaa.X

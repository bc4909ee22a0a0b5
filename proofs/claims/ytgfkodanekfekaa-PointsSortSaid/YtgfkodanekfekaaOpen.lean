/- How Go's data read as the lists and structures of the printed functions: integers, structs of two and of three fields, slices. -/
import Derived.Test.YtgfkodanekfekaaX0
import Derived.Deep.Slices
import Derived.OpenShut
import Derived.SizedLaws
namespace Go.Proofs.Ytgfkodanekfekaa.Open
open Go.RowKit Go.Proofs.YtgfkodanekfekaaW.PrintWords Go.ChangeShapes Go.WideShapes
set_option linter.unusedVariables false
set_option linter.unusedSimpArgs false

/-- Whatever reads as data of type t is of kind d, and well-formed. -/
structure Opens {α : Type} (P : Program) (t : TypeId) (d : Kd α) (wf : α → Prop) : Prop where
  cells : P.cellsOf t = d.sz
  go : ∀ {H : Type} {enc : TypeId × Value → H} {w : World} {base : Nat} {spare : Nat → Bool} {held : Bool} {fuel : Nat} {cs : List Value} {x : DataW H × List MemPlace}, DataW.trod enc P w base spare held fuel t cs = some x → cs.length = d.sz → ∃ y, d.K w y cs ∧ wf y

theorem Opens.mono {α : Type} {P : Program} {t : TypeId} {d : Kd α} {wf wf' : α → Prop} (h : Opens P t d wf) (hw : ∀ y, wf y → wf' y) : Opens P t d wf' :=
  ⟨h.cells, fun ht hl => let ⟨y, h1, h2⟩ := h.go ht hl; ⟨y, h1, hw y h2⟩⟩

theorem opens_int {P : Program} {t : TypeId} {k : IntKind} (hu : P.underlying t = some (.int k)) (hc : P.cellsOf t = 1) : Opens P t (Kd.int k) (fun n => (Lit.int k n).wf = true) := by
  refine ⟨hc, ?_⟩
  intro H enc w base spare held fuel cs x h hl
  cases fuel with
  | zero => simp [DataW.trod] at h
  | succ fuel =>
    obtain ⟨v, rfl⟩ : ∃ v, cs = [v] := List.length_eq_one_iff.mp hl
    unfold DataW.trod at h
    simp only [hu] at h
    split at h <;> simp_all
    obtain ⟨⟨rfl, h1⟩, h2⟩ := h
    exact ⟨_, rfl, h1⟩

theorem opens_iso {α β : Type} {P : Program} {t : TypeId} {d : Kd α} {wf : α → Prop} (h : Opens P t d wf) (f : β → α) (g : α → β) (hfg : ∀ y, f (g y) = y) : Opens P t (Kd.iso d f) (fun x => wf (f x)) :=
  ⟨h.cells, fun ht hl => let ⟨y, h1, h2⟩ := h.go ht hl; ⟨g y, by show d.K _ (f (g y)) _; rw [hfg]; exact h1, by rw [hfg]; exact h2⟩⟩

theorem take_drop_split {cs : List Value} {n m : Nat} (h : cs.length = n + m) : cs = cs.take n ++ (cs.drop n).take m := by
  rw [List.take_of_length_le (l := cs.drop n) (by rw [List.length_drop]; omega), List.take_append_drop]

theorem opens_struct2 {α β : Type} {P : Program} {t : TypeId} {f0 f1 : Field} {d0 : Kd α} {d1 : Kd β} {w0 : α → Prop} {w1 : β → Prop} (hu : P.underlying t = some (.struct #[f0, f1])) (hc : P.cellsOf t = d0.sz + d1.sz)
    (ho0 : f0.offset = 0) (ho1 : f1.offset = d0.sz) (h0 : Opens P f0.type d0 w0) (h1 : Opens P f1.type d1 w1) : Opens P t (Kd.pair d0 d1) (fun x => w0 x.1 ∧ w1 x.2) := by
  refine ⟨hc, ?_⟩
  intro H enc w base spare held fuel cs x h hl
  have hl' : cs.length = d0.sz + d1.sz := hl
  cases fuel with
  | zero => simp [DataW.trod] at h
  | succ fuel =>
    unfold DataW.trod at h
    simp only [hu] at h
    rw [if_pos (by rw [hl', hc])] at h
    simp only [List.mapM_cons, List.mapM_nil, ho0, ho1, h0.cells, h1.cells, List.drop_zero, Option.map_eq_some_iff, Option.bind_eq_bind, Option.bind_eq_some_iff] at h
    obtain ⟨xs, ⟨y0, hy0, ys, ⟨y1, hy1, _⟩, _⟩, _⟩ := h
    obtain ⟨z0, k0, g0⟩ := h0.go hy0 (by rw [List.length_take]; omega)
    obtain ⟨z1, k1, g1⟩ := h1.go hy1 (by rw [List.length_take, List.length_drop]; omega)
    exact ⟨(z0, z1), ⟨_, _, take_drop_split hl', k0, k1⟩, g0, g1⟩

theorem opens_struct3 {α β γ : Type} {P : Program} {t : TypeId} {f0 f1 f2 : Field} {d0 : Kd α} {d1 : Kd β} {d2 : Kd γ} {w0 : α → Prop} {w1 : β → Prop} {w2 : γ → Prop} (hu : P.underlying t = some (.struct #[f0, f1, f2])) (hc : P.cellsOf t = d0.sz + (d1.sz + d2.sz))
    (ho0 : f0.offset = 0) (ho1 : f1.offset = d0.sz) (ho2 : f2.offset = d0.sz + d1.sz) (h0 : Opens P f0.type d0 w0) (h1 : Opens P f1.type d1 w1) (h2 : Opens P f2.type d2 w2) : Opens P t (Kd.pair d0 (Kd.pair d1 d2)) (fun x => w0 x.1 ∧ w1 x.2.1 ∧ w2 x.2.2) := by
  refine ⟨hc, ?_⟩
  intro H enc w base spare held fuel cs x h hl
  have hl' : cs.length = d0.sz + (d1.sz + d2.sz) := hl
  cases fuel with
  | zero => simp [DataW.trod] at h
  | succ fuel =>
    unfold DataW.trod at h
    simp only [hu] at h
    rw [if_pos (by rw [hl', hc])] at h
    simp only [List.mapM_cons, List.mapM_nil, ho0, ho1, ho2, h0.cells, h1.cells, h2.cells, List.drop_zero, Option.map_eq_some_iff, Option.bind_eq_bind, Option.bind_eq_some_iff] at h
    obtain ⟨xs, ⟨y0, hy0, ys, ⟨y1, hy1, zs, ⟨y2, hy2, _⟩, _⟩, _⟩, _⟩ := h
    obtain ⟨z0, k0, g0⟩ := h0.go hy0 (by rw [List.length_take]; omega)
    obtain ⟨z1, k1, g1⟩ := h1.go hy1 (by rw [List.length_take, List.length_drop]; omega)
    obtain ⟨z2, k2, g2⟩ := h2.go hy2 (by rw [List.length_take, List.length_drop]; omega)
    refine ⟨(z0, z1, z2), ⟨_, _, take_drop_split hl', k0, ⟨_, _, ?_, k1, k2⟩⟩, g0, g1, g2⟩
    have := take_drop_split (cs := (cs.drop d0.sz).take (d1.sz + d2.sz)) (n := d1.sz) (m := d2.sz) (by rw [List.length_take, List.length_drop]; omega)
    rw [this]
    congr 1
    · rw [List.take_take, Nat.min_eq_left (by omega)]
    · rw [List.drop_take, List.drop_drop, List.take_take]
      congr 1
      omega

theorem cells_cell {w : World} {base n : Nat} {a : Addr} {cs : List Value} (h : w.cells? base a n = some cs) : cs.length = n ∧ ∀ (i : Nat) (u : Value), cs[i]? = some u → w.cell? (a.add i) = some u := by
  unfold World.cells? at h
  split at h
  · have key : ∀ (l : List Nat) (cs : List Value), l.mapM (fun i => w.cell? (a.add i)) = some cs → cs.length = l.length ∧ ∀ (i : Nat) (u : Value), cs[i]? = some u → ∃ j : Nat, l[i]? = some j ∧ w.cell? (a.add j) = some u := by
      intro l
      induction l with
      | nil => intro cs h; simp at h; subst h; simp
      | cons j l ih =>
        intro cs h
        simp only [List.mapM_cons, Option.bind_eq_bind, Option.bind_eq_some_iff] at h
        obtain ⟨v, hv, vs, hvs, hh⟩ := h
        obtain rfl := Option.some.inj hh
        obtain ⟨h1, h2⟩ := ih vs hvs
        refine ⟨by simp [h1], fun i u hu => ?_⟩
        cases i with
        | zero => simp at hu; subst hu; exact ⟨j, rfl, hv⟩
        | succ i => simpa using h2 i u (by simpa using hu)
    obtain ⟨h1, h2⟩ := key _ _ h
    refine ⟨by simpa using h1, fun i u hu => ?_⟩
    obtain ⟨j, hj, hc⟩ := h2 i u hu
    have hi : i < n := by
      have := (List.getElem?_eq_some_iff.1 hu).1
      simp at h1
      omega
    rw [List.getElem?_range hi] at hj
    obtain rfl := Option.some.inj hj
    exact hc
  · cases h

theorem add_add_ (a : Addr) (i j : Nat) : (a.add i).add j = a.add (i + j) := Go.Deep.add_add a i j

theorem opens_slice {α : Type} [Inhabited α] {P : Program} {t e : TypeId} {d : Kd α} {wf : α → Prop} (hu : P.underlying t = some (.slice e)) (hc : P.cellsOf t = 1) (h : Opens P e d wf) : Opens P t (Kd.slice e d) (fun l => ∀ x ∈ l, wf x) := by
  refine ⟨hc, ?_⟩
  intro H enc w base spare held fuel cs x ht hl
  rcases Go.Deep.open_slice hu ht with ⟨rfl, _⟩ | ⟨a, len, cap, m, n, D, Pl, rfl, hb, hlc, hcm, hm, hx, hel⟩
  · exact ⟨[], ⟨none, 0, rfl, Nat.le_refl _, ⟨rfl, by simp, fun h => absurd h (by simp)⟩⟩, by simp⟩
  · have hlm : len ≤ m := by rw [hm]; split <;> omega
    have hall : ∀ i, i < len → ∃ y : α, ∃ c, c.length = d.sz ∧ d.K w y c ∧ wf y ∧ ∀ j u, c[j]? = some u → w.cell? (a.add (i * d.sz + j)) = some u := by
      intro i hi
      obtain ⟨cs', h1, h2⟩ := hel i (by omega)
      rw [h.cells] at h1
      obtain ⟨h3, h4⟩ := cells_cell h1
      obtain ⟨y, hy, hw⟩ := h.go h2 h3
      exact ⟨y, cs', h3, hy, hw, fun j u hu => by rw [← add_add_]; exact h4 j u hu⟩
    obtain ⟨f, hf⟩ := Go.Deep.choose_lt hall
    have hmax : cap ≤ 9223372036854775807 := by unfold maxLen at hcm; omega
    refine ⟨(List.range len).map f, ⟨some a, cap, by simp, by simpa using hlc, ⟨rfl, by simp; omega, fun _ => ⟨a, rfl, fun j p hp => ?_⟩⟩⟩, ?_⟩
    · have hj : j < len := by have := (List.getElem?_eq_some_iff.1 hp).1; simpa using this
      rw [List.getElem?_map, List.getElem?_range hj] at hp
      simp at hp
      subst hp
      obtain ⟨c, h1, h2, h3, h4⟩ := hf j hj
      exact ⟨c, h1, h2, h4⟩
    · intro y hy
      obtain ⟨i, hi, rfl⟩ := List.mem_map.1 hy
      obtain ⟨c, h1, h2, h3, h4⟩ := hf i (by simpa using hi)
      exact h3

/-- a slice argument -/
theorem open_row {α : Type} [Inhabited α] {H : Type} {enc : TypeId × Value → H} {P : Program} {t e : TypeId} {d : Kd α} {wf : α → Prop} (hu : P.underlying t = some (.slice e)) (h : Opens P e d wf) {b : Nat} (hb : P.bytesOf e = b)
    {W : World} {A : Option Addr} {len cap : Nat} {D : DataW H} {ps : List MemPlace} (ht : DataW.Trod enc P W 0 (fun _ => true) true t (.slice A len cap) D ps)
    {ts : List TypeId} {ds : List (DataW H)} (hsz : (DataW.weightsEach P ts ds).all (· ≤ reachBytes) = true) {j : Nat} (hj : ts[j]? = some t) (hd : ds[j]? = some D) :
    ∃ l : List α, len = l.length ∧ l.length ≤ cap ∧ d.C W A l.length l ∧ (∀ x ∈ l, wf x) ∧ l.length * b ≤ 140737488351232 := by
  obtain ⟨fuel, ht⟩ := ht
  have hcs : (Value.slice A len cap).cells.toList = [.slice A len cap] := rfl
  rw [hcs] at ht
  have hlen : len * b ≤ 140737488351232 := by
    rcases Go.Deep.open_slice hu ht with ⟨he, _⟩ | ⟨a, len', cap', m, n, D', Pl, he, _, _, _, _, hx, _⟩
    · injection he with he
      injection he with _ he _
      subst he
      omega
    · injection he with he
      injection he with _ he _
      subst he
      simp only [Prod.mk.injEq] at hx
      rw [hx.1] at hd
      have := sized_slice hsz hj hd hu
      rw [hb] at this
      simp only [List.length_map, List.length_range, reachBytes] at this
      have h2 : len * b ≤ (len + (m - len)) * b := Nat.mul_le_mul_right _ (by omega)
      omega
  rcases Go.Deep.open_slice hu ht with ⟨he, _⟩ | ⟨a, len', cap', m, n, D', Pl, he, hb0, hlc, hcm, hm, hx, hel⟩
  · injection he with he
    injection he with h1 h2 h3
    subst h1; subst h2; subst h3
    exact ⟨[], rfl, Nat.le_refl _, ⟨rfl, by simp, fun h => absurd h (by simp)⟩, by simp, by simp⟩
  · injection he with he
    injection he with h1 h2 h3
    subst h1; subst h2; subst h3
    have hlm : len ≤ m := by rw [hm]; split <;> omega
    have hall : ∀ i, i < len → ∃ y : α, ∃ c, c.length = d.sz ∧ d.K W y c ∧ wf y ∧ ∀ j u, c[j]? = some u → W.cell? (a.add (i * d.sz + j)) = some u := by
      intro i hi
      obtain ⟨cs', h1, h2⟩ := hel i (by omega)
      rw [h.cells] at h1
      obtain ⟨h3, h4⟩ := cells_cell h1
      obtain ⟨y, hy, hw⟩ := h.go h2 h3
      exact ⟨y, cs', h3, hy, hw, fun j u hu => by rw [← add_add_]; exact h4 j u hu⟩
    obtain ⟨f, hf⟩ := Go.Deep.choose_lt hall
    have hmax : cap ≤ 9223372036854775807 := by unfold maxLen at hcm; omega
    refine ⟨(List.range len).map f, by simp, by simpa using hlc, ⟨rfl, by simp; omega, fun _ => ⟨a, rfl, fun j p hp => ?_⟩⟩, ?_, by simpa using hlen⟩
    · have hj : j < len := by have := (List.getElem?_eq_some_iff.1 hp).1; simpa using this
      rw [List.getElem?_map, List.getElem?_range hj] at hp
      simp at hp
      subst hp
      obtain ⟨c, h1, h2, h3, h4⟩ := hf j hj
      exact ⟨c, h1, h2, h4⟩
    · intro y hy
      obtain ⟨i, hi, rfl⟩ := List.mem_map.1 hy
      obtain ⟨c, h1, h2, h3, h4⟩ := hf i (by simpa using hi)
      exact h3

/-- a struct argument by value -/
theorem open_agg {α : Type} {H : Type} {enc : TypeId × Value → H} {P : Program} {t : TypeId} {d : Kd α} {wf : α → Prop} (h : Opens P t d wf)
    {W : World} {cs : Array Value} {D : DataW H} {ps : List MemPlace} (hs : cs.size = P.cellsOf t) (ht : DataW.Trod enc P W 0 (fun _ => true) true t (.agg cs) D ps) : ∃ y, d.K W y cs.toList ∧ wf y := by
  obtain ⟨fuel, ht⟩ := ht
  have hcs : (Value.agg cs).cells.toList = cs.toList := rfl
  rw [hcs] at ht
  exact h.go ht (by rw [Array.length_toList, hs, h.cells])
end Go.Proofs.Ytgfkodanekfekaa.Open

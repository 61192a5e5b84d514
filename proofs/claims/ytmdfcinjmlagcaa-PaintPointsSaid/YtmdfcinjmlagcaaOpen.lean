/- Arguments of whatever kind (numbers, structs, slices of them): what can be read as data is told by the kinds of the print, and its numbers are of their kinds. -/
import Derived.Test.YtmdfcinjmlagcaaWWords
import Derived.ChangeArms
import Derived.WideShapes
import Derived.DataElems
import Derived.OpenShut
namespace Go.Proofs.Ytmdfcinjmlagcaa.P
open Go.RowKit Go.Proofs.YtmdfcinjmlagcaaW.PrintWords

/-- Whatever reads as data of type T is a value of the kind d, and meets wf. -/
def Rd (P : Program) (T : TypeId) {α : Type} (d : Kd α) (wf : α → Prop) : Prop :=
  ∀ (H : Type) (enc : TypeId × Value → H) (w : World) (base : Nat) (spare : Nat → Bool) (held : Bool) (fuel : Nat) (cs : List Value) (x : DataW H × List MemPlace),
    DataW.trod enc P w base spare held fuel T cs = some x → ∃ a, d.K w a cs ∧ wf a

/-- The fields of a struct of N cells from cell o on. -/
def RdF (P : Program) (fs : Array Field) (o N : Nat) {α : Type} (d : Kd α) (wf : α → Prop) : Prop :=
  ∀ (H : Type) (enc : TypeId × Value → H) (w : World) (base : Nat) (spare : Nat → Bool) (held : Bool) (cs : List Value), cs.length = N →
    (∀ (j : Nat) (f : Field), fs[j]? = some f → ∃ n x, DataW.trod enc P w base spare held n f.type ((cs.drop f.offset).take (P.cellsOf f.type)) = some x) → ∃ a, d.K w a (cs.drop o) ∧ wf a

variable {P : Program}
theorem rd_int {T : TypeId} {k : IntKind} (hT : P.underlying T = some (.int k)) : Rd P T (Kd.int k) (fun a => (Lit.int k a).wf = true) := by
  intro H enc w base spare held fuel cs x h
  obtain ⟨a, e, _, wa⟩ := DataW.trod_int hT h
  exact ⟨a, e, wa⟩
theorem rd_bool {T : TypeId} (hT : P.underlying T = some .bool) : Rd P T Kd.bool (fun _ => True) := by
  intro H enc w base spare held fuel cs x h
  obtain ⟨a, e, _⟩ := DataW.trod_bool hT h
  exact ⟨a, e, trivial⟩
theorem rdf_last {α : Type} {fs : Array Field} {f : Field} (i : Nat) {o c N : Nat} {d : Kd α} {wf : α → Prop} (hf : fs[i]? = some f) (ho : f.offset = o) (hc : P.cellsOf f.type = c) (hN : o + c = N) (h : Rd P f.type d wf) : RdF P fs o N d wf := by
  intro H enc w base spare held cs hl hr
  obtain ⟨n, x, hx⟩ := hr i f hf
  obtain ⟨a, ha, hw⟩ := h H enc w base spare held n _ x hx
  rw [ho, hc, List.take_of_length_le (by rw [List.length_drop]; omega)] at ha
  exact ⟨a, ha, hw⟩
theorem rdf_cons {α β : Type} {fs : Array Field} {f : Field} (i : Nat) {o c N : Nat} {d1 : Kd α} {d2 : Kd β} {wf1 : α → Prop} {wf2 : β → Prop} (hf : fs[i]? = some f) (ho : f.offset = o) (hc : P.cellsOf f.type = c)
    (h : Rd P f.type d1 wf1) (hr : RdF P fs (o + c) N d2 wf2) : RdF P fs o N (Kd.pair d1 d2) (fun a => wf1 a.1 ∧ wf2 a.2) := by
  intro H enc w base spare held cs hl hx
  obtain ⟨n, x, hx0⟩ := hx i f hf
  obtain ⟨a, ha, hw⟩ := h H enc w base spare held n _ x hx0
  obtain ⟨b, hb, hwb⟩ := hr H enc w base spare held cs hl hx
  rw [ho, hc] at ha
  refine ⟨(a, b), ⟨(cs.drop o).take c, cs.drop (o + c), ?_, ha, hb⟩, hw, hwb⟩
  rw [← List.drop_drop, List.take_append_drop]
theorem rd_struct {α : Type} {T : TypeId} {fs : Array Field} {N : Nat} {d : Kd α} {wf : α → Prop} (hT : P.underlying T = some (.struct fs)) (hN : P.cellsOf T = N) (h : RdF P fs 0 N d wf) : Rd P T d wf := by
  intro H enc w base spare held fuel cs x hx
  obtain ⟨xs, n, _, _, hl, hlen, hr⟩ := DataW.trod_struct hT hx
  obtain ⟨a, ha, hw⟩ := h H enc w base spare held cs (hl.trans hN) (fun j f hf => by
    have hj : j < xs.length := by
      rcases Nat.lt_or_ge j fs.size with h1 | h1
      · omega
      · rw [Array.getElem?_eq_none h1] at hf; cases hf
    exact ⟨n, xs[j], by rw [hr j f hf, List.getElem?_eq_getElem hj]⟩)
  exact ⟨a, ha, hw⟩
theorem rd_iso {α β : Type} {T : TypeId} {d : Kd α} {wf : α → Prop} {f : β → α} (g : α → β) (hg : ∀ a, f (g a) = a) (h : Rd P T d wf) : Rd P T (Kd.iso d f) (fun b => wf (f b)) := by
  intro H enc w base spare held fuel cs x hx
  obtain ⟨a, ha, hw⟩ := h H enc w base spare held fuel cs x hx
  exact ⟨g a, by show d.K w (f (g a)) cs; rw [hg]; exact ha, by show wf (f (g a)); rw [hg]; exact hw⟩
theorem rd_imp {α : Type} {T : TypeId} {d : Kd α} {wf wf' : α → Prop} (h : Rd P T d wf) (hw : ∀ a, wf a → wf' a) : Rd P T d wf' := by
  intro H enc w base spare held fuel cs x hx
  obtain ⟨a, ha, h1⟩ := h H enc w base spare held fuel cs x hx
  exact ⟨a, ha, hw a h1⟩

theorem cells_get {w : World} {base : Nat} {a : Addr} {n : Nat} {cs : List Value} (h : w.cells? base a n = some cs) : cs.length = n ∧ ∀ i u, cs[i]? = some u → w.cell? (a.add i) = some u := by
  unfold World.cells? at h
  split at h
  · have hl := mapM_some_length h
    rw [List.length_range] at hl
    refine ⟨hl, fun i u hi => ?_⟩
    have hin : i < n := by
      rcases Nat.lt_or_ge i cs.length with h1 | h1
      · omega
      · rw [List.getElem?_eq_none h1] at hi; cases hi
    have := mapM_some_get h i i (by simp [hin])
    rw [this, hi]
  · cases h

theorem list_of {α : Type} (p : Nat → α → Prop) : ∀ n, (∀ i, i < n → ∃ y, p i y) → ∃ l : List α, l.length = n ∧ ∀ i y, l[i]? = some y → p i y := by
  intro n
  induction n with
  | zero => intro _; exact ⟨[], rfl, fun i y h => by simp at h⟩
  | succ m ih =>
    intro key
    obtain ⟨l, h1, h2⟩ := ih (fun i hi => key i (by omega))
    obtain ⟨y, hy⟩ := key m (by omega)
    refine ⟨l ++ [y], by simp [h1], fun i z hz => ?_⟩
    rcases Nat.lt_or_ge i m with hi | hi
    · rw [List.getElem?_append_left (by omega)] at hz; exact h2 i z hz
    · have : i = m := by
        rcases Nat.lt_or_ge i (m + 1) with h3 | h3
        · omega
        · rw [List.getElem?_eq_none (by simp; omega)] at hz; cases hz
      subst this
      rw [List.getElem?_append_right (by omega)] at hz
      simp [h1] at hz
      subst hz; exact hy

theorem rd_slice {α : Type} {T e : TypeId} {d : Kd α} {wf : α → Prop} (hT : P.underlying T = some (.slice e)) (hc : P.cellsOf e = d.sz) (h : Rd P e d wf) : Rd P T (Kd.slice e d) (fun l => l.length ≤ maxLen ∧ ∀ x ∈ l, wf x) := by
  intro H enc w base spare held fuel cs x hx
  rcases DataW.trod_slice hT hx with ⟨rfl, _⟩ | ⟨a, len, cap, elems, rest, n, _, rfl, _, _, hlc, hcap, hel, hget, _⟩
  · exact ⟨[], ⟨none, 0, rfl, Nat.le_refl _, rfl, by simp, fun h => absurd h (by simp)⟩, by simp, by simp⟩
  · have key : ∀ i, i < len → ∃ y, wf y ∧ ∃ c, c.length = d.sz ∧ d.K w y c ∧ ∀ j u, c[j]? = some u → w.cell? (a.add (i * d.sz + j)) = some u := by
      intro i hi
      have hg := hget i hi
      rw [List.getElem?_eq_getElem (by omega)] at hg
      simp only [Option.bind_eq_some_iff] at hg
      obtain ⟨c, hc1, hc2⟩ := hg
      obtain ⟨y, hy, hw⟩ := h H enc w base spare held n c _ hc2
      rw [hc] at hc1
      obtain ⟨l1, l2⟩ := cells_get hc1
      refine ⟨y, hw, c, l1, hy, fun j u hj => ?_⟩
      have := l2 j u hj
      rw [← this, Addr.add_add]
    obtain ⟨l, hl, hlp⟩ := list_of (fun i y => wf y ∧ ∃ c, c.length = d.sz ∧ d.K w y c ∧ ∀ j u, c[j]? = some u → w.cell? (a.add (i * d.sz + j)) = some u) len key
    subst hl
    refine ⟨l, ⟨some a, cap, rfl, hlc, rfl, ?_, fun _ => ⟨a, rfl, fun j p hp => (hlp j p hp).2⟩⟩, ?_, ?_⟩
    · unfold maxLen at hcap; omega
    · omega
    · intro x hx
      obtain ⟨i, hi, rfl⟩ := List.getElem_of_mem hx
      exact (hlp i _ (List.getElem?_eq_getElem hi)).1

/-- An array's elements, as if they were fields. -/
def arrF (e : TypeId) (sz n : Nat) : Array Field := ((List.range n).map fun j => ({ name := "", type := e, offset := j * sz, embedded := false, tag := "", pkgPath := "", byteOffset := 0 } : Field)).toArray
theorem rd_array {α : Type} {T e : TypeId} {n N sz : Nat} {d : Kd α} {wf : α → Prop} (hT : P.underlying T = some (.array n e)) (hs : P.cellsOf e = sz) (hN : P.cellsOf T = N) (h : RdF P (arrF e sz n) 0 N d wf) : Rd P T d wf := by
  intro H enc w base spare held fuel cs x hx
  obtain ⟨xs, m, _, _, hl, hlen, hr⟩ := DataW.trod_array hT hx
  obtain ⟨a, ha, hw⟩ := h H enc w base spare held cs (hl.trans hN) (fun j f hf => by
    have hj : j < n := by
      rcases Nat.lt_or_ge j n with h1 | h1
      · exact h1
      · rw [Array.getElem?_eq_none (by simp [arrF]; exact h1)] at hf; cases hf
    have e1 : f.type = e ∧ f.offset = j * sz := by
      simp [arrF, hj] at hf
      subst hf; exact ⟨rfl, rfl⟩
    have h2 := hr j hj
    rw [hs, List.getElem?_eq_getElem (by omega)] at h2
    exact ⟨m, xs[j]'(by omega), by rw [e1.1, e1.2, hs]; exact h2⟩)
  exact ⟨a, ha, hw⟩
theorem okWide_array {w : World} {r : Reach} {base : Nat} {t : TypeId} {v : Value} {n : Nat} {e : TypeId} (ht : P.underlying t = some (.array n e)) (h : Value.okWide P w r base t v) : ∃ cs, v = .agg cs ∧ cs.size = P.cellsOf t := by
  simp only [Value.okWide, ht] at h
  obtain ⟨cs, h1, h2, _⟩ := h
  exact ⟨cs, h1, h2⟩
end Go.Proofs.Ytmdfcinjmlagcaa.P

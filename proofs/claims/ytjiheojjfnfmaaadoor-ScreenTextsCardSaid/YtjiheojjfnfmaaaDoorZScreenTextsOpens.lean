/- Of the text Opens, what the row of ScreenTexts reaches. -/
import Derived.Deep.Slices
import Derived.ChangeSame
import Derived.ChangeArms
import Derived.Test.YtjiheojjfnfmaaaDoorZScreenTextsWWords
namespace Go.Proofs.YtjiheojjfnfmaaaDoor.Opens
open Go.ChangeShapes Go.WideShapes Go.Deep Go.Proofs.YtjiheojjfnfmaaaDoorW.PrintWords

/-- whatever is read at type t is of kind d, and ok -/
def Opens (P : Program) (t : TypeId) {α : Type} (d : Kd α) (ok : α → Prop) : Prop :=
  ∀ {H : Type} (enc : TypeId × Value → H) (W : World) (fuel : Nat) (cs : List Value) (x : DataW H × List MemPlace),
    DataW.trod enc P W 0 (fun _ => true) true fuel t cs = some x → ∃ a, d.K W a cs ∧ ok a
variable {P : Program}
theorem o_int {t : TypeId} {k : IntKind} (ht : P.underlying t = some (.int k)) : Opens P t (Kd.int k) (fun a => (Lit.int k a).wf = true) := by
  intro H enc W fuel cs x h
  obtain ⟨n, rfl, _, hw⟩ := DataW.trod_int ht h
  exact ⟨n, rfl, hw⟩
theorem o_string {t : TypeId} (ht : P.underlying t = some .string) : Opens P t Kd.string (fun s => s.size ≤ 9223372036854775807) := by
  intro H enc W fuel cs x h
  obtain ⟨n, rfl, _, hs⟩ := DataW.trod_string ht h
  exact ⟨n, rfl, by simpa only [maxLen] using hs⟩
theorem listOf {α : Type} {q : Nat → α → Prop} : ∀ n : Nat, (∀ i, i < n → ∃ a, q i a) → ∃ l : List α, l.length = n ∧ ∀ i a, l[i]? = some a → q i a
  | 0, _ => ⟨[], rfl, fun i a h => by simp at h⟩
  | n + 1, h => by
    obtain ⟨l, hl, hq⟩ := listOf n (fun i hi => h i (by omega))
    obtain ⟨a, ha⟩ := h n (by omega)
    refine ⟨l ++ [a], by simp [hl], fun i b hb => ?_⟩
    by_cases hi : i < n
    · rw [List.getElem?_append_left (by omega)] at hb; exact hq i b hb
    · rw [List.getElem?_append_right (by omega)] at hb
      by_cases e : i = n
      · subst e; simp [hl] at hb; exact hb ▸ ha
      · rw [List.getElem?_eq_none (by simp; omega)] at hb; cases hb
theorem o_slice {t e : TypeId} {α : Type} {d : Kd α} {ok : α → Prop} (ht : P.underlying t = some (.slice e)) (hs : P.cellsOf e = d.sz) (ho : Opens P e d ok) :
    Opens P t (Kd.slice e d) (fun l => l.length ≤ 9223372036854775807 ∧ ∀ x ∈ l, ok x) := by
  intro H enc W fuel cs x h
  rcases open_slice ht h with ⟨rfl, _⟩ | ⟨a, len, cap, m, n, D, Pl, rfl, _, hl, hm, hmm, _, hx⟩
  · exact ⟨[], ⟨none, 0, rfl, Nat.le_refl _, rfl, by simp, fun h => absurd h (by simp)⟩, by simp, fun x hx => by simp at hx⟩
  · have hm' : cap ≤ 9223372036854775807 := by simpa only [maxLen] using hm
    obtain ⟨l, hlen, hq⟩ := listOf (q := fun i a' => ok a' ∧ ∃ c, c.length = d.sz ∧ d.K W a' c ∧ ∀ j u, c[j]? = some u → W.cell? (a.add (i * d.sz + j)) = some u) len (fun i hi => by
      obtain ⟨cs', h1, h2⟩ := hx i (by rw [hmm]; simp; omega)
      obtain ⟨b, hK, hok⟩ := ho enc W n cs' _ h2
      obtain ⟨_, hcl, hc⟩ := World.cells?_some h1
      refine ⟨b, hok, cs', by rw [hcl, hs], hK, fun j u hu => ?_⟩
      have hj : j < cs'.length := by
        rcases Nat.lt_or_ge j cs'.length with h | h
        · exact h
        · rw [List.getElem?_eq_none h] at hu; cases hu
      have := hc j (by omega)
      rw [hu, hs, Addr.add_add] at this
      exact this)
    refine ⟨l, ⟨some a, cap, by rw [hlen], by omega, ?_⟩, by omega, fun y hy => ?_⟩
    · exact ⟨rfl, by omega, fun _ => ⟨a, rfl, fun j p hj => (hq j p hj).2⟩⟩
    · obtain ⟨i, hi, rfl⟩ := List.getElem_of_mem hy
      exact (hq i _ (List.getElem?_eq_getElem hi)).1
/-- the fields of a struct, from the place o on; n: the cells in all -/
def OpensF (P : Program) (fs : List Field) (o n : Nat) {α : Type} (d : Kd α) (ok : α → Prop) : Prop :=
  ∀ {H : Type} (enc : TypeId × Value → H) (W : World) (fuel : Nat) (cs : List Value), cs.length = n →
    (∀ (i : Nat) (f : Field), fs[i]? = some f → ∃ x, DataW.trod enc P W 0 (fun _ => true) true fuel f.type ((cs.drop f.offset).take (P.cellsOf f.type)) = some x) → ∃ a, d.K W a (cs.drop o) ∧ ok a
theorem o_one {f : Field} {o n : Nat} {α : Type} {d : Kd α} {ok : α → Prop} (h1 : f.offset = o) (h2 : o + P.cellsOf f.type = n) (h : Opens P f.type d ok) : OpensF P [f] o n d ok := by
  intro H enc W fuel cs hl hx
  obtain ⟨x, hx⟩ := hx 0 f rfl
  rw [h1, List.take_of_length_le (by simp; omega)] at hx
  exact h enc W fuel _ _ hx
theorem o_cons {f : Field} {fs : List Field} {o n : Nat} {α β : Type} {d : Kd α} {d2 : Kd β} {ok : α → Prop} {ok2 : β → Prop} (h1 : f.offset = o) (h : Opens P f.type d ok) {o2 : Nat} (h2 : o + P.cellsOf f.type = o2) (hr : OpensF P fs o2 n d2 ok2) :
    OpensF P (f :: fs) o n (Kd.pair d d2) (fun x => ok x.1 ∧ ok2 x.2) := by
  intro H enc W fuel cs hl hx
  obtain ⟨x, h0⟩ := hx 0 f rfl
  obtain ⟨a, ha, oa⟩ := h enc W fuel _ _ h0
  obtain ⟨b, hb, ob⟩ := hr enc W fuel cs hl (fun i g hg => hx (i + 1) g (by simpa using hg))
  refine ⟨(a, b), ⟨_, _, ?_, ha, hb⟩, oa, ob⟩
  rw [h1, ← h2, ← List.drop_drop, List.take_append_drop]
theorem o_struct {t : TypeId} {fs : Array Field} {n : Nat} {α β : Type} {d : Kd α} {ok : α → Prop} (g : β → α) (mk : α → β) (hg : ∀ a, g (mk a) = a) (ht : P.underlying t = some (.struct fs)) (hn : P.cellsOf t = n) (h : OpensF P fs.toList 0 n d ok) :
    Opens P t (Kd.iso d g) (fun b => ok (g b)) := by
  intro H enc W fuel cs x hx
  obtain ⟨xs, m, _, _, hl, hxl, hf⟩ := DataW.trod_struct ht hx
  obtain ⟨a, ha, oa⟩ := h enc W m cs (by omega) (fun i f hi => by
    have hi' : fs[i]? = some f := by simpa using hi
    have hlt : i < xs.length := by
      rw [hxl]
      rcases Nat.lt_or_ge i fs.size with h | h
      · exact h
      · rw [Array.getElem?_eq_none h] at hi'; cases hi'
    exact ⟨xs[i], by rw [hf i f hi', List.getElem?_eq_getElem hlt]⟩)
  refine ⟨mk a, ?_, show ok (g (mk a)) by rw [hg]; exact oa⟩
  show d.K W (g (mk a)) cs
  rw [hg]; simpa using ha
/-- an argument's value -/
theorem o_arg {t : TypeId} {α : Type} {d : Kd α} {ok : α → Prop} (h : Opens P t d ok) {H : Type} {enc : TypeId × Value → H} {W : World} {v : Value} {dd : DataW H} {p : List MemPlace} (ht : DataW.Trod enc P W 0 (fun _ => true) true t v dd p) : ∃ a, d.K W a v.cells.toList ∧ ok a := by
  obtain ⟨fuel, hf⟩ := ht
  exact h enc W fuel _ _ hf
end Go.Proofs.YtjiheojjfnfmaaaDoor.Opens


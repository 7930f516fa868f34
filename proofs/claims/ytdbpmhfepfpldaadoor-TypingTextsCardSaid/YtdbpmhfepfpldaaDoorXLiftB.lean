/- Typed data, taken apart. Conditions: none. -/
import Derived.Test.YtdbpmhfepfpldaaDoorXLift
set_option linter.unusedSimpArgs false
set_option linter.unusedVariables false
namespace Go.Ab
variable {P : Program} {t e : TypeId} {ds : List DV}

theorem DT.inv_int {k : IntKind} (h : DT P t ds) (hu : P.underlying t = some (.int k)) : ∃ n, ds = [.int k n] ∧ k.has n := by
  cases h with
  | int h hn => rw [hu] at h; cases h; exact ⟨_, rfl, hn⟩
  | bool h => rw [hu] at h; cases h
  | str h => rw [hu] at h; cases h
  | sl h => rw [hu] at h; cases h
  | struct h => rw [hu] at h; cases h
theorem DT.inv_bool (h : DT P t ds) (hu : P.underlying t = some .bool) : ∃ b, ds = [.bool b] := by
  cases h with
  | bool h => exact ⟨_, rfl⟩
  | int h => rw [hu] at h; cases h
  | str h => rw [hu] at h; cases h
  | sl h => rw [hu] at h; cases h
  | struct h => rw [hu] at h; cases h
theorem DT.inv_str (h : DT P t ds) (hu : P.underlying t = some .string) : ∃ s, ds = [.str s] ∧ s.length ≤ maxLen := by
  cases h with
  | str h hs => exact ⟨_, rfl, hs⟩
  | int h => rw [hu] at h; cases h
  | bool h => rw [hu] at h; cases h
  | sl h => rw [hu] at h; cases h
  | struct h => rw [hu] at h; cases h
theorem DT.inv_sl (h : DT P t ds) (hu : P.underlying t = some (.slice e)) : ∃ rows, ds = [.sl rows] ∧ rows.length ≤ maxLen ∧ ∀ r ∈ rows, DT P e r := by
  cases h with
  | sl h hm hr => rw [hu] at h; cases h; exact ⟨_, rfl, hm, hr⟩
  | int h => rw [hu] at h; cases h
  | bool h => rw [hu] at h; cases h
  | str h => rw [hu] at h; cases h
  | struct h => rw [hu] at h; cases h
theorem DT.inv_struct {fs : Array Field} (h : DT P t ds) (hu : P.underlying t = some (.struct fs)) : DTs P fs.toList ds := by
  cases h with
  | struct h hf => rw [hu] at h; cases h; exact hf
  | int h => rw [hu] at h; cases h
  | bool h => rw [hu] at h; cases h
  | str h => rw [hu] at h; cases h
  | sl h => rw [hu] at h; cases h
theorem DTs.inv_cons {f : Field} {fs : List Field} (h : DTs P (f :: fs) ds) : ∃ a b, ds = a ++ b ∧ DT P f.type a ∧ DTs P fs b := by
  cases h with
  | cons h hs => exact ⟨_, _, rfl, h, hs⟩
theorem DTs.inv_nil (h : DTs P [] ds) : ds = [] := by cases h; rfl

/-- Rows that can be read one by one can be read together. -/
theorem rows_dec {α : Type} {p : List DV → α → Prop} : ∀ (rows : List (List DV)), (∀ r ∈ rows, ∃ x, p r x) → ∃ l : List α, l.length = rows.length ∧ ∀ (i : Nat) (r : List DV) (x : α), rows[i]? = some r → l[i]? = some x → p r x
  | [], _ => ⟨[], rfl, by simp⟩
  | r :: rows, h => by
    obtain ⟨x, hx⟩ := h r (by simp)
    obtain ⟨l, hl, hp⟩ := rows_dec rows (fun r hr => h r (by simp [hr]))
    refine ⟨x :: l, by simp [hl], fun i r' x' h1 h2 => ?_⟩
    cases i with
    | zero => simp at h1 h2; subst h1; subst h2; exact hx
    | succ i => exact hp i r' x' (by simpa using h1) (by simpa using h2)
theorem rows_map {α : Type} {f : α → List DV} : ∀ (rows : List (List DV)), (∀ r ∈ rows, ∃ x, r = f x) → ∃ l : List α, rows = l.map f
  | [], _ => ⟨[], rfl⟩
  | r :: rows, h => by
    obtain ⟨x, hx⟩ := h r (by simp)
    obtain ⟨l, hl⟩ := rows_map rows (fun r hr => h r (by simp [hr]))
    exact ⟨x :: l, by rw [hx, hl]; rfl⟩

end Go.Ab

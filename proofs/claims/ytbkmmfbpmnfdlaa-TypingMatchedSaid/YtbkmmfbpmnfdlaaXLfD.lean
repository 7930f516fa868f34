/- Types and data types read off their cells; what the rows of this seat share. Conditions: none. -/
import Derived.Test.YtbkmmfbpmnfdlaaRows
import Derived.Test.YtbkmmfbpmnfdlaaXLiftB
import Derived.Test.YtbkmmfbpmnfdlaaXDa
set_option linter.unusedSimpArgs false
set_option linter.unusedVariables false
namespace Go.Ab
open Go.Proofs

theorem dec_ty : ∀ (n : Nat) (ds : List DV), SizeOf.sizeOf ds ≤ n → DT Try.prog 25 ds → ∃ t : Ty, ds = t.enc := by
  intro n
  induction n with
  | zero => intro ds h; cases ds <;> simp at h
  | succ n ih =>
    intro ds hn h
    obtain ⟨a, b, rfl, h1, hb⟩ := (h.inv_struct Try.underlying25).inv_cons
    obtain ⟨a2, b2, rfl, h2, hb2⟩ := hb.inv_cons
    obtain ⟨a3, b3, rfl, h3, hb3⟩ := hb2.inv_cons
    cases hb3.inv_nil
    obtain ⟨k, rfl, _⟩ := h1.inv_int Try.underlying3
    obtain ⟨m, rfl, _⟩ := h2.inv_int Try.underlying3
    obtain ⟨rows, rfl, _, hr⟩ := h3.inv_sl Try.underlying23
    obtain ⟨l, hl⟩ := rows_map (f := Ty.enc) rows (fun r hm => ih r (by
      have := List.sizeOf_lt_of_mem hm
      simp only [List.cons_append, List.nil_append, List.append_nil, List.cons.sizeOf_spec, List.nil.sizeOf_spec, DV.int.sizeOf_spec, DV.sl.sizeOf_spec] at hn
      omega) (hr r hm))
    have e : ∀ l : List Ty, l.map Ty.enc = Ty.encs l := fun l => by
      induction l with
      | nil => rfl
      | cons t l ih => simp [Ty.encs, ih]
    exact ⟨.mk k m l, by rw [hl, e]; rfl⟩

theorem dec_con (ds : List DV) (h : DT Try.prog 31 ds) : ∃ c : Con, ds = c.enc := by
  obtain ⟨a, b, rfl, h1, hb⟩ := (h.inv_struct Try.underlying31).inv_cons
  obtain ⟨a2, b2, rfl, h2, hb2⟩ := hb.inv_cons
  cases hb2.inv_nil
  obtain ⟨s, rfl, _⟩ := h1.inv_str Try.underlying9
  obtain ⟨rows, rfl, _, hr⟩ := h2.inv_sl Try.underlying23
  obtain ⟨l, hl⟩ := rows_map (f := Ty.enc) rows (fun r hm => dec_ty _ r (Nat.le_refl _) (hr r hm))
  have e : ∀ l : List Ty, l.map Ty.enc = Ty.encs l := fun l => by
    induction l with
    | nil => rfl
    | cons t l ih => simp [Ty.encs, ih]
  exact ⟨⟨s, l⟩, by rw [hl, e]; rfl⟩

theorem dec_dat (ds : List DV) (h : DT Try.prog 34 ds) : ∃ c : Dat, ds = c.enc := by
  obtain ⟨a, b, rfl, h1, hb⟩ := (h.inv_struct Try.underlying34).inv_cons
  obtain ⟨a2, b2, rfl, h2, hb2⟩ := hb.inv_cons
  obtain ⟨a3, b3, rfl, h3, hb3⟩ := hb2.inv_cons
  cases hb3.inv_nil
  obtain ⟨s, rfl, _⟩ := h1.inv_str Try.underlying9
  obtain ⟨m, rfl, _⟩ := h2.inv_int Try.underlying3
  obtain ⟨rows, rfl, _, hr⟩ := h3.inv_sl Try.underlying32
  obtain ⟨l, hl⟩ := rows_map (f := Con.enc) rows (fun r hm => dec_con r (hr r hm))
  exact ⟨⟨s, m, l⟩, by rw [hl]; rfl⟩

end Go.Ab
namespace Go.Proofs.Ytbkmmfbpmnfdlaa

theorem Try.own : ownKnob Try.prog.godebug = none := by kernel_rfl
theorem Try.laidOut : laidOutB Try.prog = true := by kernel_rfl

end Go.Proofs.Ytbkmmfbpmnfdlaa

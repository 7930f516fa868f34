/- The given statement TypingFields: for every input the law returns true. Conditions: none. -/
import Derived.Test.YtbkmmfbpmnfdlaaRows
import Derived.Test.YtbkmmfbpmnfdlaaXLiftB
import Derived.Test.YtbkmmfbpmnfdlaaXLw
set_option linter.unusedSimpArgs false
set_option linter.unusedVariables false
namespace Go.Ab
open Go.Proofs

theorem dec_ty : ∀ (n : Nat) (ds : List DV), SizeOf.sizeOf ds ≤ n → DT Try.prog 25 ds → ∃ t : Ty, ds = t.enc := by
  intro n
  induction n with
  | zero => intro ds h; cases ds <;> simp at h
  | succ n ih =>
    intro ds hn h
    obtain ⟨a, b, rfl, h1, hb⟩ := (h.inv_struct Try.underlying25).inv_cons
    obtain ⟨a2, b2, rfl, h2, hb2⟩ := hb.inv_cons
    obtain ⟨a3, b3, rfl, h3, hb3⟩ := hb2.inv_cons
    cases hb3.inv_nil
    obtain ⟨k, rfl, _⟩ := h1.inv_int Try.underlying3
    obtain ⟨m, rfl, _⟩ := h2.inv_int Try.underlying3
    obtain ⟨rows, rfl, _, hr⟩ := h3.inv_sl Try.underlying23
    obtain ⟨l, hl⟩ := rows_map (f := Ty.enc) rows (fun r hm => ih r (by
      have := List.sizeOf_lt_of_mem hm
      simp only [List.cons_append, List.nil_append, List.append_nil, List.cons.sizeOf_spec, List.nil.sizeOf_spec, DV.int.sizeOf_spec, DV.sl.sizeOf_spec] at hn
      omega) (hr r hm))
    have e : ∀ l : List Ty, l.map Ty.enc = Ty.encs l := fun l => by
      induction l with
      | nil => rfl
      | cons t l ih => simp [Ty.encs, ih]
    exact ⟨.mk k m l, by rw [hl, e]; rfl⟩

theorem dec_con (ds : List DV) (h : DT Try.prog 31 ds) : ∃ c : Con, ds = c.enc := by
  obtain ⟨a, b, rfl, h1, hb⟩ := (h.inv_struct Try.underlying31).inv_cons
  obtain ⟨a2, b2, rfl, h2, hb2⟩ := hb.inv_cons
  cases hb2.inv_nil
  obtain ⟨s, rfl, _⟩ := h1.inv_str Try.underlying9
  obtain ⟨rows, rfl, _, hr⟩ := h2.inv_sl Try.underlying23
  obtain ⟨l, hl⟩ := rows_map (f := Ty.enc) rows (fun r hm => dec_ty _ r (Nat.le_refl _) (hr r hm))
  have e : ∀ l : List Ty, l.map Ty.enc = Ty.encs l := fun l => by
    induction l with
    | nil => rfl
    | cons t l ih => simp [Ty.encs, ih]
  exact ⟨⟨s, l⟩, by rw [hl, e]; rfl⟩

theorem dec_dat (ds : List DV) (h : DT Try.prog 34 ds) : ∃ c : Dat, ds = c.enc := by
  obtain ⟨a, b, rfl, h1, hb⟩ := (h.inv_struct Try.underlying34).inv_cons
  obtain ⟨a2, b2, rfl, h2, hb2⟩ := hb.inv_cons
  obtain ⟨a3, b3, rfl, h3, hb3⟩ := hb2.inv_cons
  cases hb3.inv_nil
  obtain ⟨s, rfl, _⟩ := h1.inv_str Try.underlying9
  obtain ⟨m, rfl, _⟩ := h2.inv_int Try.underlying3
  obtain ⟨rows, rfl, _, hr⟩ := h3.inv_sl Try.underlying32
  obtain ⟨l, hl⟩ := rows_map (f := Con.enc) rows (fun r hm => dec_con r (hr r hm))
  exact ⟨⟨s, m, l⟩, by rw [hl]; rfl⟩

theorem fields_main (av : List AV) (h : DArgs Try.prog [22, 25, 3] av) : ACalls Try.prog 3 av startH (fun v _ => v = .d (.bool true)) := by
  cases h with
  | cons h1 h =>
    cases h with
    | cons h2 h =>
      cases h with
      | cons h3 h =>
        cases h
        obtain ⟨rows, rfl, _, hr⟩ := h1.inv_sl Try.underlying22
        obtain ⟨l, rfl⟩ := rows_map (f := Dat.enc) rows (fun r hm => dec_dat r (hr r hm))
        obtain ⟨t, rfl⟩ := dec_ty _ _ (Nat.le_refl _) h2
        obtain ⟨c, rfl, _⟩ := h3.inv_int Try.underlying3
        rw [argA_one Try.underlying22 (by simp), argA_struct Try.underlying25, argA_one Try.underlying3 (by simp)]
        exact (TypingFields_ok l t c startH).mono (fun _ _ h => h.1)

end Go.Ab
namespace Go.Proofs.Ytbkmmfbpmnfdlaa
open Go.ChangeShapes Go.WideShapes Go.ChangeAt Go.RowKit

theorem Try.own : ownKnob Try.prog.godebug = none := by kernel_rfl
theorem Try.laidOut : laidOutB Try.prog = true := by kernel_rfl

set_option maxRecDepth 100000 in
theorem typingFields_lifted (os : Os) (started : os.Started) (H : Type) (enc : TypeId × Value → H) :
    ReturnsInHanded {} Try.checked os 3 .any (Rows.typingFieldsSpec.pre6 enc Try.prog Try.f3 Rows.typingFieldsRow.domain false) (Rows.typingFieldsSpec.post enc Try.prog Try.f3 false true false false) := by
  refine returnsInHanded_of_change (C := Try.checked) Try.own started (by kernel_rfl) Try.func3
    (ChangeSpec.witness6 (enc := enc) (C := Try.checked) false ⟨#[], #[.slice none 0 0, .agg #[.int .i64 0, .int .i64 0, .slice none 0 0], .int .i64 0], []⟩ 8 (by kernel_rfl) (by kernel_rfl) (by kernel_rfl) (by kernel_rfl)) ?_
  intro W base args ds gs before hval hW _ _
  refine Go.Ab.law_contract (P := Try.prog) [22, 34, 9, 3, 32, 31, 23, 25] Try.laidOut (by kernel_rfl) ?_ ?_ (tb := 4) (by kernel_rfl) Try.underlying4 rfl ?_ ?_ W base args ds gs before hval hW
  · rw [Try.params3]; simp
  · rw [Try.params3]
    intro t ht
    simp only [List.mem_cons, List.not_mem_nil, or_false] at ht
    rcases ht with rfl | rfl | rfl
    · exact ⟨by kernel_rfl, of_decide_eq_true (by kernel_rfl)⟩
    · exact ⟨by kernel_rfl, of_decide_eq_true (by kernel_rfl)⟩
    · exact ⟨by kernel_rfl, of_decide_eq_true (by kernel_rfl)⟩
  · rw [Try.params3]
    intro ds hd
    match ds, hd with
    | [d1, d2, d3], _ => rfl
  · rw [Try.params3]
    exact Go.Ab.fields_main

theorem typingFields_holds : Rows.TypingFieldsSaid :=
  OpenClaim.holds_of_wide 3 Try.f3 rfl rfl rfl rfl rfl rfl rfl ⟨rfl, rfl, rfl, rfl, rfl⟩ rfl rfl rfl rfl rfl (by kernel_rfl) Try.func3 (by kernel_rfl)
    (of_decide_eq_true (by kernel_rfl)) (by unfold Func.isWrapper; first | (rw [if_pos (by decide +kernel)]; kernel_rfl) | (rw [if_neg (by decide +kernel)]; exact ⟨rfl, rfl⟩))
    (fun os started H enc _ => typingFields_lifted os started H enc)

end Go.Proofs.Ytbkmmfbpmnfdlaa
#print axioms Go.Proofs.Ytbkmmfbpmnfdlaa.typingFields_holds

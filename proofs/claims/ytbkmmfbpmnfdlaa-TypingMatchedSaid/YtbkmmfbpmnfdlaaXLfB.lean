/- The given statement TypingMatched: for every input the law returns true. Conditions: none. -/
import Derived.Test.YtbkmmfbpmnfdlaaXLfD
import Derived.Test.YtbkmmfbpmnfdlaaXMv
set_option linter.unusedSimpArgs false
set_option linter.unusedVariables false
namespace Go.Ab
open Go.Proofs

theorem matched_main (av : List AV) (h : DArgs Try.prog [25, 25, 23] av) : ACalls Try.prog 4 av startH (fun v _ => v = .d (.bool true)) := by
  cases h with
  | cons h1 h =>
    cases h with
    | cons h2 h =>
      cases h with
      | cons h3 h =>
        cases h
        obtain ⟨t, rfl⟩ := dec_ty _ _ (Nat.le_refl _) h1
        obtain ⟨u, rfl⟩ := dec_ty _ _ (Nat.le_refl _) h2
        obtain ⟨rows, rfl, _, hr⟩ := h3.inv_sl Try.underlying23
        obtain ⟨l, hl⟩ := rows_map (f := Ty.enc) rows (fun r hm => dec_ty _ r (Nat.le_refl _) (hr r hm))
        have e : ∀ l : List Ty, l.map Ty.enc = Ty.encs l := fun l => by
          induction l with
          | nil => rfl
          | cons t l ih => simp [Ty.encs, ih]
        rw [argA_struct Try.underlying25, argA_struct Try.underlying25, argA_one Try.underlying23 (by simp), hl, e]
        exact (TypingMatched_ok t u l startH).mono (fun _ _ h => h.1)

end Go.Ab
namespace Go.Proofs.Ytbkmmfbpmnfdlaa
open Go.ChangeShapes Go.WideShapes Go.ChangeAt Go.RowKit

set_option maxRecDepth 100000 in
theorem typingMatched_lifted (os : Os) (started : os.Started) (H : Type) (enc : TypeId × Value → H) :
    ReturnsInHanded {} Try.checked os 4 .any (Rows.typingMatchedSpec.pre6 enc Try.prog Try.f4 Rows.typingMatchedRow.domain false) (Rows.typingMatchedSpec.post enc Try.prog Try.f4 false true false false) := by
  refine returnsInHanded_of_change (C := Try.checked) Try.own started (by kernel_rfl) Try.func4
    (ChangeSpec.witness6 (enc := enc) (C := Try.checked) false ⟨#[], #[.agg #[.int .i64 0, .int .i64 0, .slice none 0 0], .agg #[.int .i64 0, .int .i64 0, .slice none 0 0], .slice none 0 0], []⟩ 8 (by kernel_rfl) (by kernel_rfl) (by kernel_rfl) (by kernel_rfl)) ?_
  intro W base args ds gs before hval hW _ _
  refine Go.Ab.law_contract (P := Try.prog) [22, 34, 9, 3, 32, 31, 23, 25] Try.laidOut (by kernel_rfl) ?_ ?_ (tb := 4) (by kernel_rfl) Try.underlying4 rfl ?_ ?_ W base args ds gs before hval hW
  · rw [Try.params4]; simp
  · rw [Try.params4]
    intro t ht
    simp only [List.mem_cons, List.not_mem_nil, or_false] at ht
    rcases ht with rfl | rfl | rfl
    · exact ⟨by kernel_rfl, of_decide_eq_true (by kernel_rfl)⟩
    · exact ⟨by kernel_rfl, of_decide_eq_true (by kernel_rfl)⟩
    · exact ⟨by kernel_rfl, of_decide_eq_true (by kernel_rfl)⟩
  · rw [Try.params4]
    intro ds hd
    match ds, hd with
    | [d1, d2, d3], _ => rfl
  · rw [Try.params4]
    exact Go.Ab.matched_main

theorem typingMatched_holds : Rows.TypingMatchedSaid :=
  OpenClaim.holds_of_wide 4 Try.f4 rfl rfl rfl rfl rfl rfl rfl ⟨rfl, rfl, rfl, rfl, rfl⟩ rfl rfl rfl rfl rfl (by kernel_rfl) Try.func4 (by kernel_rfl)
    (of_decide_eq_true (by kernel_rfl)) (by unfold Func.isWrapper; first | (rw [if_pos (by decide +kernel)]; kernel_rfl) | (rw [if_neg (by decide +kernel)]; exact ⟨rfl, rfl⟩))
    (fun os started H enc _ => typingMatched_lifted os started H enc)

end Go.Proofs.Ytbkmmfbpmnfdlaa
#print axioms Go.Proofs.Ytbkmmfbpmnfdlaa.typingMatched_holds

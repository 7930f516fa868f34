/- The given statement FormUnique, as a card: for every input the law returns true. Conditions: none. -/
import Derived.Test.YtdbpmhfepfpldaaDoorXLfK
import Derived.Test.YtdbpmhfepfpldaaDoorXGm
set_option linter.unusedSimpArgs false
set_option linter.unusedVariables false
namespace Go.Ab
open Go.Proofs

theorem formUnique_main (av : List AV) (h : DArgs Tryd.prog [33, 3, 2] av) : ACalls Tryd.prog 8 av (startT gtT) (fun v _ => v = .d (.bool true)) := by
  cases h with | cons h1 h =>
  cases h with | cons h2 h =>
  cases h with | cons h3 h =>
  cases h
  obtain ⟨x0, rfl⟩ := dec_lin _ h1
  obtain ⟨x1, rfl, _⟩ := h2.inv_int Tryd.underlying3
  obtain ⟨x2, rfl, _⟩ := h3.inv_int Tryd.underlying2
  rw [argA_struct Tryd.underlying33, argA_one Tryd.underlying3 (by simp), argA_one Tryd.underlying2 (by simp)]
  exact (FormUnique_ok x0 x1 x2 (startT gtT) gtT_pow).mono (fun _ _ h => h.1)

end Go.Ab
namespace Go.Proofs.YtdbpmhfepfpldaaDoor
open Go.ChangeShapes Go.WideShapes Go.ChangeAt Go.RowKit

set_option maxRecDepth 100000 in
theorem formUnique_lifted (os : Os) (started : os.Started) (H : Type) (enc : TypeId × Value → H) :
    ReturnsInHanded {} Tryd.checked os 8 .any (fun w args => (Rows.formUniqueSpec.pre enc Tryd.prog Tryd.f8 [] false w args ∧ laidMetH Tryd.prog laid3 w) ∧ sizedMet enc Tryd.prog Tryd.f8 (OpenSpec.ofChange Rows.formUniqueSpec) false w args)
      (Rows.formUniqueSpec.post enc Tryd.prog Tryd.f8 false true false false) := by
  refine returnsInHanded_of_change_and (C := Tryd.checked) (X := fun w _ => laidMetH Tryd.prog laid3 w) (fun _ _ _ hh h => h.of_heap hh) Tryd.own started (by kernel_rfl) Tryd.func8
    (ChangeSpec.witness_shaped (enc := enc) (C := Tryd.checked) (os := os) (X := fun w _ => laidMetH Tryd.prog laid3 w) false (World.doorLaid Tryd.prog 400 os) #[.agg #[.int .i64 0, .slice none 0 0], .int .i64 0, .int .i64 0] 8 rfl (World.shaped_of_RefB (by kernel_rfl) (by kernel_rfl)) (by kernel_rfl) (by kernel_rfl) (by kernel_rfl) (door_met os _)) ?_
  intro W base args ds gs before hval hW _ _ hL _
  refine Go.Ab.law_contractT (P := Tryd.prog) (gt := Go.Ab.gtT) [2, 3, 33, 31, 49] Tryd.laidOut (by kernel_rfl) ?_ ?_ (tb := 4) (by kernel_rfl) Tryd.underlying4 rfl ?_ ?_ W (pow_laid hL) base args ds gs before hval hW
  · rw [Tryd.params8]; simp
  · rw [Tryd.params8]
    intro t ht
    simp only [List.mem_cons, List.not_mem_nil, or_false] at ht
    rcases ht with rfl | rfl | rfl
    · exact ⟨by kernel_rfl, of_decide_eq_true (by kernel_rfl)⟩
    · exact ⟨by kernel_rfl, of_decide_eq_true (by kernel_rfl)⟩
    · exact ⟨by kernel_rfl, of_decide_eq_true (by kernel_rfl)⟩
  · rw [Tryd.params8]
    intro ds hd
    match ds, hd with
    | [d0, d1, d2], _ => rfl
  · rw [Tryd.params8]
    exact Go.Ab.formUnique_main

theorem formUnique_row : Rows.FormUniqueSaid :=
  OpenClaim.holds_of_wide 8 Tryd.f8 rfl rfl rfl rfl rfl rfl rfl ⟨rfl, rfl, rfl, rfl, rfl⟩ rfl rfl rfl rfl rfl (by kernel_rfl) Tryd.func8 (by kernel_rfl)
    (of_decide_eq_true (by kernel_rfl)) (by unfold Func.isWrapper; first | (rw [if_pos (by decide +kernel)]; kernel_rfl) | (rw [if_neg (by decide +kernel)]; exact ⟨rfl, rfl⟩))
    (fun os started H enc _ => formUnique_lifted os started H enc)

theorem formUnique_holds : Rows.FormUniqueCardSaid :=
  Claim7.holds_tied_plain_at .later [] [.data, .data, .data] true (true, "77d8020c10c3e82ea6b5e5ed0f848ba91c8775fd7cc19528a90a5aa01435b65e") false
    formUnique_row (fun _ h => by cases h) (by kernel_rfl) (fun _ h => by cases h) formUnique_row_tie rfl ⟨rfl, rfl⟩ (by kernel_rfl) rfl
    (fun f fn hf hfn => by
      obtain rfl : f = 8 := Option.some.inj ((show Tryd.prog.funcNamed "amortcost/amortcostlaw19.FormUnique" = some 8 by kernel_rfl).symm.trans hf) |>.symm
      obtain rfl : fn = Tryd.f8 := (Option.some.inj (Tryd.func8.symm.trans hfn)).symm
      exact ⟨by kernel_rfl, fun j t ht => by
        rw [Tryd.params8] at ht
        have hm : t ∈ [33, 3, 2] := by simpa using Array.mem_of_getElem? ht
        have hall : ([33, 3, 2].all fun u => !Tryd.prog.wantsStandIn u) = true := by kernel_rfl
        exact (show Tryd.prog.wantsStandIn t = false by simpa using List.all_eq_true.1 hall t hm)⟩)
    (by kernel_rfl)

end Go.Proofs.YtdbpmhfepfpldaaDoor
#print axioms Go.Proofs.YtdbpmhfepfpldaaDoor.formUnique_holds

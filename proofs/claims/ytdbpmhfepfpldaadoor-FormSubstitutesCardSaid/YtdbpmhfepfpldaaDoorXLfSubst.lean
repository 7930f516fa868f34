/- The given statement FormSubstitutes, as a card: for every input the law returns true. Conditions: none. -/
import Derived.Test.YtdbpmhfepfpldaaDoorXLfK
import Derived.Test.YtdbpmhfepfpldaaDoorXGu
set_option linter.unusedSimpArgs false
set_option linter.unusedVariables false
namespace Go.Ab
open Go.Proofs

theorem formSubstitutes_main (av : List AV) (h : DArgs Tryd.prog [33, 54, 39] av) : ACalls Tryd.prog 10 av (startT gtT) (fun v _ => v = .d (.bool true)) := by
  cases h with | cons h1 h =>
  cases h with | cons h2 h =>
  cases h with | cons h3 h =>
  cases h
  obtain ⟨x0, rfl⟩ := dec_lin _ h1
  obtain ⟨rows1, rfl, _, hr1⟩ := h2.inv_sl Tryd.underlying54
  obtain ⟨x1, rfl⟩ := rows_map (f := iRow) rows1 (fun r hm => by obtain ⟨z, rfl, _⟩ := (hr1 r hm).inv_int Tryd.underlying3; exact ⟨z, rfl⟩)
  obtain ⟨rows2, rfl, _, hr2⟩ := h3.inv_sl Tryd.underlying39
  obtain ⟨x2, rfl⟩ := rows_map (f := Ln.enc) rows2 (fun r hm => dec_lin r (hr2 r hm))
  rw [argA_struct Tryd.underlying33, argA_one Tryd.underlying54 (by simp), argA_one Tryd.underlying39 (by simp)]
  exact (FormSubstitutes_ok x0 x1 x2 (startT gtT) gtT_pow).mono (fun _ _ h => h.1)

end Go.Ab
namespace Go.Proofs.YtdbpmhfepfpldaaDoor
open Go.ChangeShapes Go.WideShapes Go.ChangeAt Go.RowKit

set_option maxRecDepth 100000 in
theorem formSubstitutes_lifted (os : Os) (started : os.Started) (H : Type) (enc : TypeId × Value → H) :
    ReturnsInHanded {} Tryd.checked os 10 .any (fun w args => (Rows.formSubstitutesSpec.pre enc Tryd.prog Tryd.f10 [] false w args ∧ laidMetH Tryd.prog laid3 w) ∧ sizedMet enc Tryd.prog Tryd.f10 (OpenSpec.ofChange Rows.formSubstitutesSpec) false w args)
      (Rows.formSubstitutesSpec.post enc Tryd.prog Tryd.f10 false true false false) := by
  refine returnsInHanded_of_change_and (C := Tryd.checked) (X := fun w _ => laidMetH Tryd.prog laid3 w) (fun _ _ _ hh h => h.of_heap hh) Tryd.own started (by kernel_rfl) Tryd.func10
    (ChangeSpec.witness_shaped (enc := enc) (C := Tryd.checked) (os := os) (X := fun w _ => laidMetH Tryd.prog laid3 w) false (World.doorLaid Tryd.prog 400 os) #[.agg #[.int .i64 0, .slice none 0 0], .slice none 0 0, .slice none 0 0] 8 rfl (World.shaped_of_RefB (by kernel_rfl) (by kernel_rfl)) (by kernel_rfl) (by kernel_rfl) (by kernel_rfl) (door_met os _)) ?_
  intro W base args ds gs before hval hW _ _ hL _
  refine Go.Ab.law_contractT (P := Tryd.prog) (gt := Go.Ab.gtT) [2, 3, 33, 31, 49, 54, 39] Tryd.laidOut (by kernel_rfl) ?_ ?_ (tb := 4) (by kernel_rfl) Tryd.underlying4 rfl ?_ ?_ W (pow_laid hL) base args ds gs before hval hW
  · rw [Tryd.params10]; simp
  · rw [Tryd.params10]
    intro t ht
    simp only [List.mem_cons, List.not_mem_nil, or_false] at ht
    rcases ht with rfl | rfl | rfl
    · exact ⟨by kernel_rfl, of_decide_eq_true (by kernel_rfl)⟩
    · exact ⟨by kernel_rfl, of_decide_eq_true (by kernel_rfl)⟩
    · exact ⟨by kernel_rfl, of_decide_eq_true (by kernel_rfl)⟩
  · rw [Tryd.params10]
    intro ds hd
    match ds, hd with
    | [d0, d1, d2], _ => rfl
  · rw [Tryd.params10]
    exact Go.Ab.formSubstitutes_main

theorem formSubstitutes_row : Rows.FormSubstitutesSaid :=
  OpenClaim.holds_of_wide 10 Tryd.f10 rfl rfl rfl rfl rfl rfl rfl ⟨rfl, rfl, rfl, rfl, rfl⟩ rfl rfl rfl rfl rfl (by kernel_rfl) Tryd.func10 (by kernel_rfl)
    (of_decide_eq_true (by kernel_rfl)) (by unfold Func.isWrapper; first | (rw [if_pos (by decide +kernel)]; kernel_rfl) | (rw [if_neg (by decide +kernel)]; exact ⟨rfl, rfl⟩))
    (fun os started H enc _ => formSubstitutes_lifted os started H enc)

theorem formSubstitutes_holds : Rows.FormSubstitutesCardSaid :=
  Claim7.holds_tied_plain_at .later [] [.data, .data, .data] true (true, "77d8020c10c3e82ea6b5e5ed0f848ba91c8775fd7cc19528a90a5aa01435b65e") false
    formSubstitutes_row (fun _ h => by cases h) (by kernel_rfl) (fun _ h => by cases h) formSubstitutes_row_tie rfl ⟨rfl, rfl⟩ (by kernel_rfl) rfl
    (fun f fn hf hfn => by
      obtain rfl : f = 10 := Option.some.inj ((show Tryd.prog.funcNamed "amortcost/amortcostlaw19.FormSubstitutes" = some 10 by kernel_rfl).symm.trans hf) |>.symm
      obtain rfl : fn = Tryd.f10 := (Option.some.inj (Tryd.func10.symm.trans hfn)).symm
      exact ⟨by kernel_rfl, fun j t ht => by
        rw [Tryd.params10] at ht
        have hm : t ∈ [33, 54, 39] := by simpa using Array.mem_of_getElem? ht
        have hall : ([33, 54, 39].all fun u => !Tryd.prog.wantsStandIn u) = true := by kernel_rfl
        exact (show Tryd.prog.wantsStandIn t = false by simpa using List.all_eq_true.1 hall t hm)⟩)
    (by kernel_rfl)

end Go.Proofs.YtdbpmhfepfpldaaDoor
#print axioms Go.Proofs.YtdbpmhfepfpldaaDoor.formSubstitutes_holds

/- The given statement ScopeRenames: for every input the law returns true. Conditions: none. -/
import Derived.Test.YtlckhmkeihbhmaaRows
import Derived.Test.YtlckhmkeihbhmaaXCdSb
set_option linter.unusedSimpArgs false
namespace Go.Ab
open Go.Proofs
theorem scopeRenames_main (av : List AV) (h : DArgs Try.prog [25] av) : ACalls Try.prog 3 av startH (fun v _ => v = .d (.bool true)) := by
  obtain ⟨p, rfl⟩ := args_pg h
  exact (ScopeRenames_ok p startH).mono (fun _ _ h => h.1)
end Go.Ab
namespace Go.Proofs.Ytlckhmkeihbhmaa
open Go.ChangeShapes Go.WideShapes Go.ChangeAt Go.RowKit
theorem Try.own : ownKnob Try.prog.godebug = none := by kernel_rfl
theorem Try.laidOut : laidOutB Try.prog = true := by kernel_rfl
set_option maxRecDepth 100000 in
theorem scopeRenames_lifted (os : Os) (started : os.Started) (H : Type) (enc : TypeId × Value → H) :
    ReturnsInHanded {} Try.checked os 3 .any (Rows.scopeRenamesSpec.pre6 enc Try.prog Try.f3 Rows.scopeRenamesRow.domain false) (Rows.scopeRenamesSpec.post enc Try.prog Try.f3 false true false false) := by
  refine returnsInHanded_of_change (C := Try.checked) Try.own started (by kernel_rfl) Try.func3
    (ChangeSpec.witness6 (enc := enc) (C := Try.checked) false ⟨#[], #[.agg #[.slice none 0 0, .slice none 0 0]], []⟩ 8 (by kernel_rfl) (by kernel_rfl) (by kernel_rfl) (by kernel_rfl)) ?_
  intro W base args ds gs before hval hW _ _
  refine Go.Ab.law_contract (P := Try.prog) [25, 22, 40, 9, 37, 38, 44, 42, 46, 3, 23, 54, 52, 2, 49, 50, 82] Try.laidOut (by kernel_rfl) ?_ ?_ (tb := 4) (by kernel_rfl) Try.underlying4 rfl ?_ ?_ W base args ds gs before hval hW
  · rw [Try.params3]; simp
  · rw [Try.params3]
    intro t ht
    simp only [List.mem_cons, List.not_mem_nil, or_false] at ht
    subst ht
    exact ⟨by kernel_rfl, of_decide_eq_true (by kernel_rfl)⟩
  · rw [Try.params3]
    intro ds hd
    match ds, hd with
    | [d0], _ => rfl
  · rw [Try.params3]
    exact Go.Ab.scopeRenames_main
theorem scopeRenames_holds : Rows.ScopeRenamesSaid :=
  OpenClaim.holds_of_wide 3 Try.f3 rfl rfl rfl rfl rfl rfl rfl ⟨rfl, rfl, rfl, rfl, rfl⟩ rfl rfl rfl rfl rfl (by kernel_rfl) Try.func3 (by kernel_rfl)
    (of_decide_eq_true (by kernel_rfl)) (by unfold Func.isWrapper; first | (rw [if_pos (by decide +kernel)]; kernel_rfl) | (rw [if_neg (by decide +kernel)]; exact ⟨rfl, rfl⟩))
    (fun os started H enc _ => scopeRenames_lifted os started H enc)
end Go.Proofs.Ytlckhmkeihbhmaa
#print axioms Go.Proofs.Ytlckhmkeihbhmaa.scopeRenames_holds

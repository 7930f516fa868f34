/- Rows of pairs of numbers. Conditions: none. -/
import Derived.Test.YtdbpmhfepfpldaaDoorXWk
set_option linter.unusedSimpArgs false
set_option linter.unusedVariables false
namespace Go.Ab
open Go.RowKit

/-- The cells of a row of pairs of numbers. -/
def prs : List (Int × Int) → List AV
  | [] => []
  | x :: l => .d (.int .i64 x.1) :: .d (.int .i64 x.2) :: prs l
def encI (x : Int × Int) : List Value := [.int .i64 x.1, .int .i64 x.2]

theorem prs_len : ∀ l : List (Int × Int), (prs l).length = l.length * 2
  | [] => rfl
  | x :: l => by simp only [prs, List.length_cons, prs_len l]; omega
theorem prs_append : ∀ l m : List (Int × Int), prs (l ++ m) = prs l ++ prs m
  | [], m => rfl
  | x :: l, m => by simp [prs, prs_append l m]
theorem prs_ok : ∀ l : List (Int × Int), cellsOk (prs l) = true
  | [] => rfl
  | x :: l => by
    have := prs_ok l
    simp only [cellsOk, prs, List.all_cons, AV.isCell, Bool.true_and] at this ⊢
    exact this
theorem prs_get : ∀ (l : List (Int × Int)) (q : Nat) (x : Int × Int), l[q]? = some x → (prs l)[q * 2]? = some (.d (.int .i64 x.1)) ∧ (prs l)[q * 2 + 1]? = some (.d (.int .i64 x.2))
  | [], q, x, h => by simp at h
  | y :: l, 0, x, h => by simp only [List.getElem?_cons_zero, Option.some.injEq] at h; subst h; simp [prs]
  | y :: l, q + 1, x, h => by
    have := prs_get l q x (by simpa using h)
    rw [show (q + 1) * 2 = q * 2 + 1 + 1 by omega]
    simpa [prs] using this

end Go.Ab

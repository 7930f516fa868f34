/- Linear forms as plain data; leaves. Conditions: none. -/
import Derived.Test.YtdbpmhfepfpldaaDoorXCdF
import Derived.Test.YtdbpmhfepfpldaaDoorXPr0
set_option linter.unusedSimpArgs false
set_option linter.unusedVariables false
namespace Go.Ab
open Go.Proofs

structure Ln where
  c : Int
  ts : List (Int × Int)
def tmR (x : Int × Int) : List DV := [.int .i64 x.1, .int .i64 x.2]
def Ln.enc (l : Ln) : List DV := [.int .i64 l.c, .sl (l.ts.map tmR)]
def linA (l : Ln) : AV := .agg [.d (.int .i64 l.c), .d (.sl (l.ts.map tmR))]
def tmsA (l : List (Int × Int)) : AV := .d (.sl (l.map tmR))

def smB (n : Int) : Bool := decide (-1048576 ≤ n) && decide (n ≤ 1048576)
def vaB (n : Int) : Bool := decide (-1 ≤ n) && decide (n < 3000)
def lgB (n : Int) : Bool := decide (n < -1099511627776) || decide (1099511627776 < n)

theorem linear_small_ok (n : Int) (σ : Heap) : ACalls Tryd.prog 49 [.d (.int .i64 n)] σ (fun v σ' => v = .d (.bool (smB n)) ∧ σ' = σ) := by
  refine i_linear_small (by simp) ?_
  rw [argF_1]
  (repeat' (first
      | refine Run.seq ?_
      | refine Run.skip ?_
      | refine Run.block ?_
      | refine Run.blk ?_
      | refine Run.scope ?_
      | refine Run.scp ?_
      | (refine Run.exit rfl ?_)
      | (refine Run.reg mixed ?_; simp -implicitDefEqProofs only [rs_linear_small, Bool.not_eq_true', Bool.not_eq_false', go_sem, eq_self, Nat.reduceEqDiff, Nat.reduceBEq, Nat.reduceAdd, Nat.reduceLeDiff, reduceIte, reduceCtorEq, tysA, tyA, Ty.enc, Ty.encs])
      | (refine Run.condM ?_; simp -implicitDefEqProofs only [rs_linear_small, Bool.not_eq_true', Bool.not_eq_false', go_sem, eq_self, Nat.reduceEqDiff, Nat.reduceBEq, Nat.reduceAdd, Nat.reduceLeDiff, reduceIte, reduceCtorEq, tysA, tyA, Ty.enc, Ty.encs])
      | (refine Run.retP g_linear_small (Heap.le_refl _) ?_; simp -implicitDefEqProofs only [rs_linear_small, go_sem, eq_self, Nat.reduceEqDiff, Nat.reduceBEq, Nat.reduceAdd, Nat.reduceLeDiff, reduceIte, reduceCtorEq, tysA, tyA, Ty.enc, Ty.encs])
      | (refine xo_gs rfl (fun h => ?_) (fun h => ?_) <;> first | (cases h; done) | simp -implicitDefEqProofs only [rs_linear_small, Bool.not_eq_true', Bool.not_eq_false', go_sem, eq_self, Nat.reduceEqDiff, Nat.reduceBEq, Nat.reduceAdd, Nat.reduceLeDiff, reduceIte, reduceCtorEq, tysA, tyA, Ty.enc, Ty.encs])
      | (refine ⟨fun h => ?_, fun h => ?_⟩ <;> first | (cases h; done) | (simp -implicitDefEqProofs only [h]; done) | (try simp -implicitDefEqProofs only [h]))
      | fail))
  all_goals (simp_all [smB]; try omega)
theorem linear_variable_ok (n : Int) (σ : Heap) : ACalls Tryd.prog 50 [.d (.int .i64 n)] σ (fun v σ' => v = .d (.bool (vaB n)) ∧ σ' = σ) := by
  refine i_linear_variable (by simp) ?_
  rw [argF_1]
  (repeat' (first
      | refine Run.seq ?_
      | refine Run.skip ?_
      | refine Run.block ?_
      | refine Run.blk ?_
      | refine Run.scope ?_
      | refine Run.scp ?_
      | (refine Run.exit rfl ?_)
      | (refine Run.reg mixed ?_; simp -implicitDefEqProofs only [rs_linear_variable, Bool.not_eq_true', Bool.not_eq_false', go_sem, eq_self, Nat.reduceEqDiff, Nat.reduceBEq, Nat.reduceAdd, Nat.reduceLeDiff, reduceIte, reduceCtorEq, tysA, tyA, Ty.enc, Ty.encs])
      | (refine Run.condM ?_; simp -implicitDefEqProofs only [rs_linear_variable, Bool.not_eq_true', Bool.not_eq_false', go_sem, eq_self, Nat.reduceEqDiff, Nat.reduceBEq, Nat.reduceAdd, Nat.reduceLeDiff, reduceIte, reduceCtorEq, tysA, tyA, Ty.enc, Ty.encs])
      | (refine Run.retP g_linear_variable (Heap.le_refl _) ?_; simp -implicitDefEqProofs only [rs_linear_variable, go_sem, eq_self, Nat.reduceEqDiff, Nat.reduceBEq, Nat.reduceAdd, Nat.reduceLeDiff, reduceIte, reduceCtorEq, tysA, tyA, Ty.enc, Ty.encs])
      | (refine xo_gs rfl (fun h => ?_) (fun h => ?_) <;> first | (cases h; done) | simp -implicitDefEqProofs only [rs_linear_variable, Bool.not_eq_true', Bool.not_eq_false', go_sem, eq_self, Nat.reduceEqDiff, Nat.reduceBEq, Nat.reduceAdd, Nat.reduceLeDiff, reduceIte, reduceCtorEq, tysA, tyA, Ty.enc, Ty.encs])
      | (refine ⟨fun h => ?_, fun h => ?_⟩ <;> first | (cases h; done) | (simp -implicitDefEqProofs only [h]; done) | (try simp -implicitDefEqProofs only [h]))
      | fail))
  all_goals (simp_all [vaB]; try omega)
theorem linear_large_ok (n : Int) (σ : Heap) : ACalls Tryd.prog 62 [.d (.int .i64 n)] σ (fun v σ' => v = .d (.bool (lgB n)) ∧ σ' = σ) := by
  refine i_linear_large (by simp) ?_
  rw [argF_1]
  (repeat' (first
      | refine Run.seq ?_
      | refine Run.skip ?_
      | refine Run.block ?_
      | refine Run.blk ?_
      | refine Run.scope ?_
      | refine Run.scp ?_
      | (refine Run.exit rfl ?_)
      | (refine Run.reg mixed ?_; simp -implicitDefEqProofs only [rs_linear_large, Bool.not_eq_true', Bool.not_eq_false', go_sem, eq_self, Nat.reduceEqDiff, Nat.reduceBEq, Nat.reduceAdd, Nat.reduceLeDiff, reduceIte, reduceCtorEq, tysA, tyA, Ty.enc, Ty.encs])
      | (refine Run.condM ?_; simp -implicitDefEqProofs only [rs_linear_large, Bool.not_eq_true', Bool.not_eq_false', go_sem, eq_self, Nat.reduceEqDiff, Nat.reduceBEq, Nat.reduceAdd, Nat.reduceLeDiff, reduceIte, reduceCtorEq, tysA, tyA, Ty.enc, Ty.encs])
      | (refine Run.retP g_linear_large (Heap.le_refl _) ?_; simp -implicitDefEqProofs only [rs_linear_large, go_sem, eq_self, Nat.reduceEqDiff, Nat.reduceBEq, Nat.reduceAdd, Nat.reduceLeDiff, reduceIte, reduceCtorEq, tysA, tyA, Ty.enc, Ty.encs])
      | (refine xo_gs rfl (fun h => ?_) (fun h => ?_) <;> first | (cases h; done) | simp -implicitDefEqProofs only [rs_linear_large, Bool.not_eq_true', Bool.not_eq_false', go_sem, eq_self, Nat.reduceEqDiff, Nat.reduceBEq, Nat.reduceAdd, Nat.reduceLeDiff, reduceIte, reduceCtorEq, tysA, tyA, Ty.enc, Ty.encs])
      | (refine ⟨fun h => ?_, fun h => ?_⟩ <;> first | (cases h; done) | (simp -implicitDefEqProofs only [h]; done) | (try simp -implicitDefEqProofs only [h]))
      | fail))
  all_goals (simp_all [lgB]; try omega)
theorem keep_Lin_ok (l : Ln) (σ : Heap) : ACalls Tryd.prog 36 [linA l] σ (fun v σ' => v = .d (.bool (decide (l.ts.length ≤ 70))) ∧ σ' = σ) := by
  refine i_keep_Lin (by simp) ?_
  rw [argF_1, linA]
  (repeat' (first
      | refine Run.seq ?_
      | refine Run.skip ?_
      | refine Run.block ?_
      | refine Run.blk ?_
      | refine Run.scope ?_
      | refine Run.scp ?_
      | (refine Run.exit rfl ?_)
      | (refine Run.reg mixed ?_; simp -implicitDefEqProofs only [rs_keep_Lin, Bool.not_eq_true', Bool.not_eq_false', go_sem, eq_self, Nat.reduceEqDiff, Nat.reduceBEq, Nat.reduceAdd, Nat.reduceLeDiff, reduceIte, reduceCtorEq, tysA, tyA, Ty.enc, Ty.encs])
      | (refine Run.condM ?_; simp -implicitDefEqProofs only [rs_keep_Lin, Bool.not_eq_true', Bool.not_eq_false', go_sem, eq_self, Nat.reduceEqDiff, Nat.reduceBEq, Nat.reduceAdd, Nat.reduceLeDiff, reduceIte, reduceCtorEq, tysA, tyA, Ty.enc, Ty.encs])
      | (refine Run.retP g_keep_Lin (Heap.le_refl _) ?_; simp -implicitDefEqProofs only [rs_keep_Lin, go_sem, eq_self, Nat.reduceEqDiff, Nat.reduceBEq, Nat.reduceAdd, Nat.reduceLeDiff, reduceIte, reduceCtorEq, tysA, tyA, Ty.enc, Ty.encs])
      | (refine xo_gs rfl (fun h => ?_) (fun h => ?_) <;> first | (cases h; done) | simp -implicitDefEqProofs only [rs_keep_Lin, Bool.not_eq_true', Bool.not_eq_false', go_sem, eq_self, Nat.reduceEqDiff, Nat.reduceBEq, Nat.reduceAdd, Nat.reduceLeDiff, reduceIte, reduceCtorEq, tysA, tyA, Ty.enc, Ty.encs])
      | (refine ⟨fun h => ?_, fun h => ?_⟩ <;> first | (cases h; done) | (simp -implicitDefEqProofs only [h]; done) | (try simp -implicitDefEqProofs only [h]))
      | fail))
  all_goals (simp only [List.length_map, and_true, AV.d.injEq, DV.bool.injEq, decide_eq_decide]; omega)
def constP (n : Int) : Ln := if smB n then ⟨n, []⟩ else ⟨0, []⟩
def variableP (n : Int) : Ln := if vaB n then ⟨0, [(n, 1)]⟩ else ⟨0, []⟩
theorem linear_Const_ok (n : Int) (σ : Heap) : ACalls Tryd.prog 18 [.d (.int .i64 n)] σ (fun v σ' => v = linA (constP n) ∧ σ' = σ) := by
  refine i_linear_Const (by simp) ?_
  rw [argF_1]
  (repeat' (first
      | refine Run.seq ?_
      | refine Run.skip ?_
      | refine Run.block ?_
      | refine Run.blk ?_
      | refine Run.scope ?_
      | refine Run.scp ?_
      | (refine Run.exit rfl ?_)
      | (refine Run.reg mixed ?_; simp -implicitDefEqProofs only [rs_linear_Const, Bool.not_eq_true', Bool.not_eq_false', go_sem, eq_self, Nat.reduceEqDiff, Nat.reduceBEq, Nat.reduceAdd, Nat.reduceLeDiff, reduceIte, reduceCtorEq, tysA, tyA, Ty.enc, Ty.encs])
      | (refine Run.condM ?_; simp -implicitDefEqProofs only [rs_linear_Const, Bool.not_eq_true', Bool.not_eq_false', go_sem, eq_self, Nat.reduceEqDiff, Nat.reduceBEq, Nat.reduceAdd, Nat.reduceLeDiff, reduceIte, reduceCtorEq, tysA, tyA, Ty.enc, Ty.encs])
      | (refine Run.retP g_linear_Const (Heap.le_refl _) ?_; simp -implicitDefEqProofs only [rs_linear_Const, go_sem, eq_self, Nat.reduceEqDiff, Nat.reduceBEq, Nat.reduceAdd, Nat.reduceLeDiff, reduceIte, reduceCtorEq, tysA, tyA, Ty.enc, Ty.encs])
      | (refine XCall.det (linear_small_ok _ _) ?_; simp -implicitDefEqProofs only [rs_linear_Const, Bool.not_eq_true', Bool.not_eq_false', go_sem, eq_self, Nat.reduceEqDiff, Nat.reduceBEq, Nat.reduceAdd, Nat.reduceLeDiff, reduceIte, reduceCtorEq, tysA, tyA, Ty.enc, Ty.encs])
      | (refine xo_gs rfl (fun h => ?_) (fun h => ?_) <;> first | (cases h; done) | simp -implicitDefEqProofs only [rs_linear_Const, Bool.not_eq_true', Bool.not_eq_false', go_sem, eq_self, Nat.reduceEqDiff, Nat.reduceBEq, Nat.reduceAdd, Nat.reduceLeDiff, reduceIte, reduceCtorEq, tysA, tyA, Ty.enc, Ty.encs])
      | (refine ⟨fun h => ?_, fun h => ?_⟩ <;> first | (cases h; done) | (simp -implicitDefEqProofs only [h]; done) | (try simp -implicitDefEqProofs only [h]))
      | fail))
  all_goals (simp_all [constP, linA])
theorem linear_Variable_ok (n : Int) (σ : Heap) : ACalls Tryd.prog 20 [.d (.int .i64 n)] σ (fun v σ' => v = linA (variableP n) ∧ σ' = σ) := by
  refine i_linear_Variable (by simp) ?_
  rw [argF_1]
  (repeat' (first
      | refine Run.seq ?_
      | refine Run.skip ?_
      | refine Run.block ?_
      | refine Run.blk ?_
      | refine Run.scope ?_
      | refine Run.scp ?_
      | (refine Run.exit rfl ?_)
      | (refine Run.reg mixed ?_; simp -implicitDefEqProofs only [rs_linear_Variable, Bool.not_eq_true', Bool.not_eq_false', go_sem, eq_self, Nat.reduceEqDiff, Nat.reduceBEq, Nat.reduceAdd, Nat.reduceLeDiff, reduceIte, reduceCtorEq, tysA, tyA, Ty.enc, Ty.encs])
      | (refine Run.condM ?_; simp -implicitDefEqProofs only [rs_linear_Variable, Bool.not_eq_true', Bool.not_eq_false', go_sem, eq_self, Nat.reduceEqDiff, Nat.reduceBEq, Nat.reduceAdd, Nat.reduceLeDiff, reduceIte, reduceCtorEq, tysA, tyA, Ty.enc, Ty.encs])
      | (refine Run.retP g_linear_Variable (Heap.le_refl _) ?_; simp -implicitDefEqProofs only [rs_linear_Variable, go_sem, eq_self, Nat.reduceEqDiff, Nat.reduceBEq, Nat.reduceAdd, Nat.reduceLeDiff, reduceIte, reduceCtorEq, tysA, tyA, Ty.enc, Ty.encs])
      | (refine XCall.det (linear_variable_ok _ _) ?_; simp -implicitDefEqProofs only [rs_linear_Variable, Bool.not_eq_true', Bool.not_eq_false', go_sem, eq_self, Nat.reduceEqDiff, Nat.reduceBEq, Nat.reduceAdd, Nat.reduceLeDiff, reduceIte, reduceCtorEq, tysA, tyA, Ty.enc, Ty.encs])
      | (refine xo_gs rfl (fun h => ?_) (fun h => ?_) <;> first | (cases h; done) | simp -implicitDefEqProofs only [rs_linear_Variable, Bool.not_eq_true', Bool.not_eq_false', go_sem, eq_self, Nat.reduceEqDiff, Nat.reduceBEq, Nat.reduceAdd, Nat.reduceLeDiff, reduceIte, reduceCtorEq, tysA, tyA, Ty.enc, Ty.encs])
      | (refine ⟨fun h => ?_, fun h => ?_⟩ <;> first | (cases h; done) | (simp -implicitDefEqProofs only [h]; done) | (try simp -implicitDefEqProofs only [h]))
      | fail))
  all_goals (simp_all [variableP, linA, tmR])
theorem r19_Const_ok (n : Int) (σ : Heap) : ACalls Tryd.prog 19 [.d (.int .i64 n)] σ (fun v σ' => v = linA (constP n) ∧ σ' = σ) := by
  refine i_r19_Const (by simp) ?_
  rw [argF_1]
  (repeat' (first
      | refine Run.seq ?_
      | refine Run.skip ?_
      | refine Run.block ?_
      | refine Run.blk ?_
      | refine Run.scope ?_
      | refine Run.scp ?_
      | (refine Run.exit rfl ?_)
      | (refine Run.reg mixed ?_; simp -implicitDefEqProofs only [rs_r19_Const, Bool.not_eq_true', Bool.not_eq_false', go_sem, eq_self, Nat.reduceEqDiff, Nat.reduceBEq, Nat.reduceAdd, Nat.reduceLeDiff, reduceIte, reduceCtorEq, tysA, tyA, Ty.enc, Ty.encs])
      | (refine Run.condM ?_; simp -implicitDefEqProofs only [rs_r19_Const, Bool.not_eq_true', Bool.not_eq_false', go_sem, eq_self, Nat.reduceEqDiff, Nat.reduceBEq, Nat.reduceAdd, Nat.reduceLeDiff, reduceIte, reduceCtorEq, tysA, tyA, Ty.enc, Ty.encs])
      | (refine Run.retP g_r19_Const (Heap.le_refl _) ?_; simp -implicitDefEqProofs only [rs_r19_Const, go_sem, eq_self, Nat.reduceEqDiff, Nat.reduceBEq, Nat.reduceAdd, Nat.reduceLeDiff, reduceIte, reduceCtorEq, tysA, tyA, Ty.enc, Ty.encs])
      | (refine xo_gs rfl (fun h => ?_) (fun h => ?_) <;> first | (cases h; done) | simp -implicitDefEqProofs only [rs_r19_Const, Bool.not_eq_true', Bool.not_eq_false', go_sem, eq_self, Nat.reduceEqDiff, Nat.reduceBEq, Nat.reduceAdd, Nat.reduceLeDiff, reduceIte, reduceCtorEq, tysA, tyA, Ty.enc, Ty.encs])
      | (refine ⟨fun h => ?_, fun h => ?_⟩ <;> first | (cases h; done) | (simp -implicitDefEqProofs only [h]; done) | (try simp -implicitDefEqProofs only [h]))
      | fail))
  all_goals (simp_all [constP, linA, smB]; try (split <;> first | omega | simp))
theorem r19_Variable_ok (n : Int) (σ : Heap) : ACalls Tryd.prog 21 [.d (.int .i64 n)] σ (fun v σ' => v = linA (variableP n) ∧ σ' = σ) := by
  refine i_r19_Variable (by simp) ?_
  rw [argF_1]
  (repeat' (first
      | refine Run.seq ?_
      | refine Run.skip ?_
      | refine Run.block ?_
      | refine Run.blk ?_
      | refine Run.scope ?_
      | refine Run.scp ?_
      | (refine Run.exit rfl ?_)
      | (refine Run.reg mixed ?_; simp -implicitDefEqProofs only [rs_r19_Variable, Bool.not_eq_true', Bool.not_eq_false', go_sem, eq_self, Nat.reduceEqDiff, Nat.reduceBEq, Nat.reduceAdd, Nat.reduceLeDiff, reduceIte, reduceCtorEq, tysA, tyA, Ty.enc, Ty.encs])
      | (refine Run.condM ?_; simp -implicitDefEqProofs only [rs_r19_Variable, Bool.not_eq_true', Bool.not_eq_false', go_sem, eq_self, Nat.reduceEqDiff, Nat.reduceBEq, Nat.reduceAdd, Nat.reduceLeDiff, reduceIte, reduceCtorEq, tysA, tyA, Ty.enc, Ty.encs])
      | (refine Run.retP g_r19_Variable (Heap.le_refl _) ?_; simp -implicitDefEqProofs only [rs_r19_Variable, go_sem, eq_self, Nat.reduceEqDiff, Nat.reduceBEq, Nat.reduceAdd, Nat.reduceLeDiff, reduceIte, reduceCtorEq, tysA, tyA, Ty.enc, Ty.encs])
      | (refine xo_gs rfl (fun h => ?_) (fun h => ?_) <;> first | (cases h; done) | simp -implicitDefEqProofs only [rs_r19_Variable, Bool.not_eq_true', Bool.not_eq_false', go_sem, eq_self, Nat.reduceEqDiff, Nat.reduceBEq, Nat.reduceAdd, Nat.reduceLeDiff, reduceIte, reduceCtorEq, tysA, tyA, Ty.enc, Ty.encs])
      | (refine ⟨fun h => ?_, fun h => ?_⟩ <;> first | (cases h; done) | (simp -implicitDefEqProofs only [h]; done) | (try simp -implicitDefEqProofs only [h]))
      | fail))
  all_goals (simp_all [variableP, linA, tmR, vaB]; try (split <;> first | omega | simp))
end Go.Ab

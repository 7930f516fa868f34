/- The laws FormBasics, FormCanonicals, FormSums over abstract values. Conditions: the table of powers of ten is laid. -/
import Derived.Test.YtdbpmhfepfpldaaDoorXGi
import Derived.Test.YtdbpmhfepfpldaaDoorXGe
import Derived.Test.YtdbpmhfepfpldaaDoorXGj
set_option linter.unusedSimpArgs false
set_option linter.unusedVariables false
namespace Go.Ab
open Go.Proofs

theorem sameL_self (l : Ln) : sameL l l = true := (sameL_iff l l).2 rfl

theorem awake_fmt : fmtP ⟨3, [(1, 1), (2, -1)]⟩ = [118, 49, 32, 45, 32, 118, 50, 32, 43, 32, 51] := by
  have h1 : Lib.decDigits 1 = [49] := Lib.decDigits_one (by decide)
  have h2 : Lib.decDigits 2 = [50] := Lib.decDigits_one (by decide)
  have h3 : Lib.decDigits 3 = [51] := Lib.decDigits_one (by decide)
  have hv : validP ⟨3, [(1, 1), (2, -1)]⟩ = true := by decide
  simp [fmtP, hv, termsP, termP, signP, coefP, nameP, absI, constPart, Lib.itoa, h1, h2, h3]

theorem awake_ok (σ : Heap) (ht : σ.gt powB = some powA) : ACalls Tryd.prog 22 [] σ (fun v σ' => v = .d (.bool true) ∧ σ' = σ) := by
  refine i_law19_awake (by simp) ?_
  have h0 : argF [] = U := by funext s; simp [argF, U]
  rw [h0]
  have r1 : resA (subP (variableP 1) (variableP 2)) = .tup [linA ⟨0, [(1, 1), (2, -1)]⟩, .d (.int .i64 0)] := rfl
  have r2 : resA (addP ⟨0, [(1, 1), (2, -1)]⟩ (constP 3)) = .tup [linA ⟨3, [(1, 1), (2, -1)]⟩, .d (.int .i64 0)] := rfl
  have r3 : (fmtP ⟨3, [(1, 1), (2, -1)]⟩ == [118, 49, 32, 45, 32, 118, 50, 32, 43, 32, 51]) = true := by rw [awake_fmt]; rfl
  (repeat' (first
      | refine Run.seq ?_
      | refine Run.skip ?_
      | refine Run.block ?_
      | refine Run.blk ?_
      | refine Run.scope ?_
      | refine Run.scp ?_
      | (refine Run.exit rfl ?_)
      | (refine Run.reg mixed ?_; simp -implicitDefEqProofs only [r1, r2, r3, strA_eql, linA, tmR, rs_law19_awake, Bool.not_eq_true', Bool.not_eq_false', go_sem, eq_self, Nat.reduceEqDiff, Nat.reduceBEq, Nat.reduceAdd, Nat.reduceLeDiff, reduceIte, reduceCtorEq, tysA, tyA, Ty.enc, Ty.encs])
      | (refine Run.condM ?_; simp -implicitDefEqProofs only [r1, r2, r3, strA_eql, linA, tmR, rs_law19_awake, Bool.not_eq_true', Bool.not_eq_false', go_sem, eq_self, Nat.reduceEqDiff, Nat.reduceBEq, Nat.reduceAdd, Nat.reduceLeDiff, reduceIte, reduceCtorEq, tysA, tyA, Ty.enc, Ty.encs])
      | (refine Run.retP g_law19_awake (Heap.le_refl _) ?_; simp -implicitDefEqProofs only [rs_law19_awake, r1, r2, r3, strA_eql, linA, tmR, go_sem, eq_self, Nat.reduceEqDiff, Nat.reduceBEq, Nat.reduceAdd, Nat.reduceLeDiff, reduceIte, reduceCtorEq, tysA, tyA, Ty.enc, Ty.encs])
      | (refine XCall.det (linear_Variable_ok 1 _) ?_; simp -implicitDefEqProofs only [r1, r2, r3, strA_eql, linA, tmR, rs_law19_awake, Bool.not_eq_true', Bool.not_eq_false', go_sem, eq_self, Nat.reduceEqDiff, Nat.reduceBEq, Nat.reduceAdd, Nat.reduceLeDiff, reduceIte, reduceCtorEq, tysA, tyA, Ty.enc, Ty.encs])
      | (refine XCall.det (linear_Variable_ok 2 _) ?_; simp -implicitDefEqProofs only [r1, r2, r3, strA_eql, linA, tmR, rs_law19_awake, Bool.not_eq_true', Bool.not_eq_false', go_sem, eq_self, Nat.reduceEqDiff, Nat.reduceBEq, Nat.reduceAdd, Nat.reduceLeDiff, reduceIte, reduceCtorEq, tysA, tyA, Ty.enc, Ty.encs])
      | (refine XCall.det (linear_Sub_ok (variableP 1) (variableP 2) _) ?_; simp -implicitDefEqProofs only [r1, r2, r3, strA_eql, linA, tmR, rs_law19_awake, Bool.not_eq_true', Bool.not_eq_false', go_sem, eq_self, Nat.reduceEqDiff, Nat.reduceBEq, Nat.reduceAdd, Nat.reduceLeDiff, reduceIte, reduceCtorEq, tysA, tyA, Ty.enc, Ty.encs])
      | (refine XCall.det (linear_Const_ok 3 _) ?_; simp -implicitDefEqProofs only [r1, r2, r3, strA_eql, linA, tmR, rs_law19_awake, Bool.not_eq_true', Bool.not_eq_false', go_sem, eq_self, Nat.reduceEqDiff, Nat.reduceBEq, Nat.reduceAdd, Nat.reduceLeDiff, reduceIte, reduceCtorEq, tysA, tyA, Ty.enc, Ty.encs])
      | (refine XCall.det (linear_Add_ok ⟨0, [(1, 1), (2, -1)]⟩ (constP 3) _) ?_; simp -implicitDefEqProofs only [r1, r2, r3, strA_eql, linA, tmR, rs_law19_awake, Bool.not_eq_true', Bool.not_eq_false', go_sem, eq_self, Nat.reduceEqDiff, Nat.reduceBEq, Nat.reduceAdd, Nat.reduceLeDiff, reduceIte, reduceCtorEq, tysA, tyA, Ty.enc, Ty.encs])
      | (refine XCall.det (linear_Format_ok ⟨3, [(1, 1), (2, -1)]⟩ _ ht) ?_; simp -implicitDefEqProofs only [r1, r2, r3, strA_eql, linA, tmR, rs_law19_awake, Bool.not_eq_true', Bool.not_eq_false', go_sem, eq_self, Nat.reduceEqDiff, Nat.reduceBEq, Nat.reduceAdd, Nat.reduceLeDiff, reduceIte, reduceCtorEq, tysA, tyA, Ty.enc, Ty.encs])
      | (refine xo_gs rfl (fun h => ?_) (fun h => ?_) <;> first | (cases h; done) | simp -implicitDefEqProofs only [r1, r2, r3, strA_eql, linA, tmR, rs_law19_awake, Bool.not_eq_true', Bool.not_eq_false', go_sem, eq_self, Nat.reduceEqDiff, Nat.reduceBEq, Nat.reduceAdd, Nat.reduceLeDiff, reduceIte, reduceCtorEq, tysA, tyA, Ty.enc, Ty.encs])
      | (refine ⟨fun h => ?_, fun h => ?_⟩ <;> first | (cases h; done) | (simp -implicitDefEqProofs only [h]; done) | (try simp -implicitDefEqProofs only [h]))
      | fail))

theorem FormBasics_ok (n v : Int) (σ : Heap) (ht : σ.gt powB = some powA) : ACalls Tryd.prog 4 [.d (.int .i64 n), .d (.int .i64 v)] σ (fun v σ' => v = .d (.bool true) ∧ σ' = σ) := by
  refine i_law19_FormBasics (by simp) ?_
  rw [argF_2]
  (repeat' (first
      | refine Run.seq ?_
      | refine Run.skip ?_
      | refine Run.block ?_
      | refine Run.blk ?_
      | refine Run.scope ?_
      | refine Run.scp ?_
      | (refine Run.exit rfl ?_)
      | (refine Run.reg mixed ?_; simp -implicitDefEqProofs only [sameL_self, rs_law19_FormBasics, Bool.not_eq_true', Bool.not_eq_false', go_sem, eq_self, Nat.reduceEqDiff, Nat.reduceBEq, Nat.reduceAdd, Nat.reduceLeDiff, reduceIte, reduceCtorEq, tysA, tyA, Ty.enc, Ty.encs])
      | (refine Run.condM ?_; simp -implicitDefEqProofs only [sameL_self, rs_law19_FormBasics, Bool.not_eq_true', Bool.not_eq_false', go_sem, eq_self, Nat.reduceEqDiff, Nat.reduceBEq, Nat.reduceAdd, Nat.reduceLeDiff, reduceIte, reduceCtorEq, tysA, tyA, Ty.enc, Ty.encs])
      | (refine Run.retP g_law19_FormBasics (Heap.le_refl _) ?_; simp -implicitDefEqProofs only [rs_law19_FormBasics, sameL_self, go_sem, eq_self, Nat.reduceEqDiff, Nat.reduceBEq, Nat.reduceAdd, Nat.reduceLeDiff, reduceIte, reduceCtorEq, tysA, tyA, Ty.enc, Ty.encs])
      | (refine XCall.det (linear_Const_ok n _) ?_; simp -implicitDefEqProofs only [sameL_self, rs_law19_FormBasics, Bool.not_eq_true', Bool.not_eq_false', go_sem, eq_self, Nat.reduceEqDiff, Nat.reduceBEq, Nat.reduceAdd, Nat.reduceLeDiff, reduceIte, reduceCtorEq, tysA, tyA, Ty.enc, Ty.encs])
      | (refine XCall.det (r19_Const_ok n _) ?_; simp -implicitDefEqProofs only [sameL_self, rs_law19_FormBasics, Bool.not_eq_true', Bool.not_eq_false', go_sem, eq_self, Nat.reduceEqDiff, Nat.reduceBEq, Nat.reduceAdd, Nat.reduceLeDiff, reduceIte, reduceCtorEq, tysA, tyA, Ty.enc, Ty.encs])
      | (refine XCall.det (linear_Variable_ok v _) ?_; simp -implicitDefEqProofs only [sameL_self, rs_law19_FormBasics, Bool.not_eq_true', Bool.not_eq_false', go_sem, eq_self, Nat.reduceEqDiff, Nat.reduceBEq, Nat.reduceAdd, Nat.reduceLeDiff, reduceIte, reduceCtorEq, tysA, tyA, Ty.enc, Ty.encs])
      | (refine XCall.det (r19_Variable_ok v _) ?_; simp -implicitDefEqProofs only [sameL_self, rs_law19_FormBasics, Bool.not_eq_true', Bool.not_eq_false', go_sem, eq_self, Nat.reduceEqDiff, Nat.reduceBEq, Nat.reduceAdd, Nat.reduceLeDiff, reduceIte, reduceCtorEq, tysA, tyA, Ty.enc, Ty.encs])
      | (refine XCall.det (keep_SameLin_ok (constP n) (constP n) _) ?_; simp -implicitDefEqProofs only [sameL_self, rs_law19_FormBasics, Bool.not_eq_true', Bool.not_eq_false', go_sem, eq_self, Nat.reduceEqDiff, Nat.reduceBEq, Nat.reduceAdd, Nat.reduceLeDiff, reduceIte, reduceCtorEq, tysA, tyA, Ty.enc, Ty.encs])
      | (refine XCall.det (keep_SameLin_ok (variableP v) (variableP v) _) ?_; simp -implicitDefEqProofs only [sameL_self, rs_law19_FormBasics, Bool.not_eq_true', Bool.not_eq_false', go_sem, eq_self, Nat.reduceEqDiff, Nat.reduceBEq, Nat.reduceAdd, Nat.reduceLeDiff, reduceIte, reduceCtorEq, tysA, tyA, Ty.enc, Ty.encs])
      | (refine XCall.det (awake_ok _ ht) ?_; simp -implicitDefEqProofs only [sameL_self, rs_law19_FormBasics, Bool.not_eq_true', Bool.not_eq_false', go_sem, eq_self, Nat.reduceEqDiff, Nat.reduceBEq, Nat.reduceAdd, Nat.reduceLeDiff, reduceIte, reduceCtorEq, tysA, tyA, Ty.enc, Ty.encs])
      | (refine xo_gs rfl (fun h => ?_) (fun h => ?_) <;> first | (cases h; done) | simp -implicitDefEqProofs only [sameL_self, rs_law19_FormBasics, Bool.not_eq_true', Bool.not_eq_false', go_sem, eq_self, Nat.reduceEqDiff, Nat.reduceBEq, Nat.reduceAdd, Nat.reduceLeDiff, reduceIte, reduceCtorEq, tysA, tyA, Ty.enc, Ty.encs])
      | (refine ⟨fun h => ?_, fun h => ?_⟩ <;> first | (cases h; done) | (simp -implicitDefEqProofs only [h]; done) | (try simp -implicitDefEqProofs only [h]))
      | fail))

theorem gt80 (n : Nat) : decide ((80 : Int) < (n : Int)) = !decide (n ≤ 80) := by
  rw [Bool.eq_iff_iff]; simp; omega

theorem FormCanonicals_ok (l : Ln) (σ : Heap) (ht : σ.gt powB = some powA) : ACalls Tryd.prog 7 [linA l] σ (fun v σ' => v = .d (.bool true) ∧ σ' = σ) := by
  obtain ⟨c, ts⟩ := l
  refine i_law19_FormCanonicals (by simp) ?_
  rw [argF_1, linA]
  by_cases h80 : ts.length ≤ 80
  case neg =>
    (repeat' (first
      | refine Run.seq ?_
      | refine Run.skip ?_
      | refine Run.block ?_
      | refine Run.blk ?_
      | refine Run.scope ?_
      | refine Run.scp ?_
      | (refine Run.exit rfl ?_)
      | (refine Run.reg mixed ?_; simp -implicitDefEqProofs only [gt80, List.length_map, decide_eq_false h80, rs_law19_FormCanonicals, Bool.not_eq_true', Bool.not_eq_false', go_sem, eq_self, Nat.reduceEqDiff, Nat.reduceBEq, Nat.reduceAdd, Nat.reduceLeDiff, reduceIte, reduceCtorEq, tysA, tyA, Ty.enc, Ty.encs])
      | (refine Run.condM ?_; simp -implicitDefEqProofs only [gt80, List.length_map, decide_eq_false h80, rs_law19_FormCanonicals, Bool.not_eq_true', Bool.not_eq_false', go_sem, eq_self, Nat.reduceEqDiff, Nat.reduceBEq, Nat.reduceAdd, Nat.reduceLeDiff, reduceIte, reduceCtorEq, tysA, tyA, Ty.enc, Ty.encs])
      | (refine Run.retP g_law19_FormCanonicals (Heap.le_refl _) ?_; simp -implicitDefEqProofs only [rs_law19_FormCanonicals, gt80, List.length_map, decide_eq_false h80, go_sem, eq_self, Nat.reduceEqDiff, Nat.reduceBEq, Nat.reduceAdd, Nat.reduceLeDiff, reduceIte, reduceCtorEq, tysA, tyA, Ty.enc, Ty.encs])
      | (refine xo_gs rfl (fun h => ?_) (fun h => ?_) <;> first | (cases h; done) | simp -implicitDefEqProofs only [gt80, List.length_map, decide_eq_false h80, rs_law19_FormCanonicals, Bool.not_eq_true', Bool.not_eq_false', go_sem, eq_self, Nat.reduceEqDiff, Nat.reduceBEq, Nat.reduceAdd, Nat.reduceLeDiff, reduceIte, reduceCtorEq, tysA, tyA, Ty.enc, Ty.encs])
      | (refine ⟨fun h => ?_, fun h => ?_⟩ <;> first | (cases h; done) | (simp -implicitDefEqProofs only [h]; done) | (try simp -implicitDefEqProofs only [h]))
      | fail))
  (repeat' (first
      | refine Run.seq ?_
      | refine Run.skip ?_
      | refine Run.block ?_
      | refine Run.blk ?_
      | refine Run.scope ?_
      | refine Run.scp ?_
      | (refine Run.exit rfl ?_)
      | (refine Run.reg mixed ?_; simp -implicitDefEqProofs only [gt80, List.length_map, decide_eq_true h80, resA, linA, sameL_self, BEq.rfl, rs_law19_FormCanonicals, Bool.not_eq_true', Bool.not_eq_false', go_sem, eq_self, Nat.reduceEqDiff, Nat.reduceBEq, Nat.reduceAdd, Nat.reduceLeDiff, reduceIte, reduceCtorEq, tysA, tyA, Ty.enc, Ty.encs])
      | (refine Run.condM ?_; simp -implicitDefEqProofs only [gt80, List.length_map, decide_eq_true h80, resA, linA, sameL_self, BEq.rfl, rs_law19_FormCanonicals, Bool.not_eq_true', Bool.not_eq_false', go_sem, eq_self, Nat.reduceEqDiff, Nat.reduceBEq, Nat.reduceAdd, Nat.reduceLeDiff, reduceIte, reduceCtorEq, tysA, tyA, Ty.enc, Ty.encs])
      | (refine Run.retP g_law19_FormCanonicals (Heap.le_refl _) ?_; simp -implicitDefEqProofs only [rs_law19_FormCanonicals, gt80, List.length_map, decide_eq_true h80, resA, linA, sameL_self, BEq.rfl, go_sem, eq_self, Nat.reduceEqDiff, Nat.reduceBEq, Nat.reduceAdd, Nat.reduceLeDiff, reduceIte, reduceCtorEq, tysA, tyA, Ty.enc, Ty.encs])
      | (refine XCall.det (linear_Canonical_ok ⟨c, ts⟩ _) ?_; simp -implicitDefEqProofs only [gt80, List.length_map, decide_eq_true h80, resA, linA, sameL_self, BEq.rfl, rs_law19_FormCanonicals, Bool.not_eq_true', Bool.not_eq_false', go_sem, eq_self, Nat.reduceEqDiff, Nat.reduceBEq, Nat.reduceAdd, Nat.reduceLeDiff, reduceIte, reduceCtorEq, tysA, tyA, Ty.enc, Ty.encs])
      | (refine XCall.det (r19_Canonical_ok ⟨c, ts⟩ _) ?_; simp -implicitDefEqProofs only [gt80, List.length_map, decide_eq_true h80, resA, linA, sameL_self, BEq.rfl, rs_law19_FormCanonicals, Bool.not_eq_true', Bool.not_eq_false', go_sem, eq_self, Nat.reduceEqDiff, Nat.reduceBEq, Nat.reduceAdd, Nat.reduceLeDiff, reduceIte, reduceCtorEq, tysA, tyA, Ty.enc, Ty.encs])
      | (refine XCall.det (linear_Valid_ok ⟨c, ts⟩ _) ?_; simp -implicitDefEqProofs only [gt80, List.length_map, decide_eq_true h80, resA, linA, sameL_self, BEq.rfl, rs_law19_FormCanonicals, Bool.not_eq_true', Bool.not_eq_false', go_sem, eq_self, Nat.reduceEqDiff, Nat.reduceBEq, Nat.reduceAdd, Nat.reduceLeDiff, reduceIte, reduceCtorEq, tysA, tyA, Ty.enc, Ty.encs])
      | (refine XCall.det (r19_Valid_ok ⟨c, ts⟩ _) ?_; simp -implicitDefEqProofs only [gt80, List.length_map, decide_eq_true h80, resA, linA, sameL_self, BEq.rfl, rs_law19_FormCanonicals, Bool.not_eq_true', Bool.not_eq_false', go_sem, eq_self, Nat.reduceEqDiff, Nat.reduceBEq, Nat.reduceAdd, Nat.reduceLeDiff, reduceIte, reduceCtorEq, tysA, tyA, Ty.enc, Ty.encs])
      | (refine XCall.det (keep_SameLin_ok (canP ⟨c, ts⟩).1 (canP ⟨c, ts⟩).1 _) ?_; simp -implicitDefEqProofs only [gt80, List.length_map, decide_eq_true h80, resA, linA, sameL_self, BEq.rfl, rs_law19_FormCanonicals, Bool.not_eq_true', Bool.not_eq_false', go_sem, eq_self, Nat.reduceEqDiff, Nat.reduceBEq, Nat.reduceAdd, Nat.reduceLeDiff, reduceIte, reduceCtorEq, tysA, tyA, Ty.enc, Ty.encs])
      | (refine XCall.det (awake_ok _ ht) ?_; simp -implicitDefEqProofs only [gt80, List.length_map, decide_eq_true h80, resA, linA, sameL_self, BEq.rfl, rs_law19_FormCanonicals, Bool.not_eq_true', Bool.not_eq_false', go_sem, eq_self, Nat.reduceEqDiff, Nat.reduceBEq, Nat.reduceAdd, Nat.reduceLeDiff, reduceIte, reduceCtorEq, tysA, tyA, Ty.enc, Ty.encs])
      | (refine xo_gs rfl (fun h => ?_) (fun h => ?_) <;> first | (cases h; done) | simp -implicitDefEqProofs only [gt80, List.length_map, decide_eq_true h80, resA, linA, sameL_self, BEq.rfl, rs_law19_FormCanonicals, Bool.not_eq_true', Bool.not_eq_false', go_sem, eq_self, Nat.reduceEqDiff, Nat.reduceBEq, Nat.reduceAdd, Nat.reduceLeDiff, reduceIte, reduceCtorEq, tysA, tyA, Ty.enc, Ty.encs])
      | (refine ⟨fun h => ?_, fun h => ?_⟩ <;> first | (cases h; done) | (simp -implicitDefEqProofs only [h]; done) | (try simp -implicitDefEqProofs only [h]))
      | fail))

theorem small2 (l m : Ln) : smallL [l, m] = (decide (l.ts.length ≤ 70) && decide (m.ts.length ≤ 70)) := by simp [smallL]

theorem FormSums_ok (l m : Ln) (n : Int) (σ : Heap) (ht : σ.gt powB = some powA) : ACalls Tryd.prog 6 [linA l, linA m, .d (.int .i64 n)] σ (fun v σ' => v = .d (.bool true) ∧ σ' = σ) := by
  obtain ⟨c, ts⟩ := l
  obtain ⟨d, us⟩ := m
  refine i_law19_FormSums (by simp) ?_
  rw [argF_3]
  simp only [linA]
  cases hs : smallL [⟨c, ts⟩, ⟨d, us⟩] with
  | false =>
    (repeat' (first
      | refine Run.seq ?_
      | refine Run.skip ?_
      | refine Run.block ?_
      | refine Run.blk ?_
      | refine Run.scope ?_
      | refine Run.scp ?_
      | (refine Run.exit rfl ?_)
      | (refine Run.reg mixed ?_; simp -implicitDefEqProofs only [hs, rs_law19_FormSums, Bool.not_eq_true', Bool.not_eq_false', go_sem, eq_self, Nat.reduceEqDiff, Nat.reduceBEq, Nat.reduceAdd, Nat.reduceLeDiff, reduceIte, reduceCtorEq, tysA, tyA, Ty.enc, Ty.encs])
      | (refine Run.condM ?_; simp -implicitDefEqProofs only [hs, rs_law19_FormSums, Bool.not_eq_true', Bool.not_eq_false', go_sem, eq_self, Nat.reduceEqDiff, Nat.reduceBEq, Nat.reduceAdd, Nat.reduceLeDiff, reduceIte, reduceCtorEq, tysA, tyA, Ty.enc, Ty.encs])
      | (refine Run.retP g_law19_FormSums (Heap.le_refl _) ?_; simp -implicitDefEqProofs only [rs_law19_FormSums, hs, go_sem, eq_self, Nat.reduceEqDiff, Nat.reduceBEq, Nat.reduceAdd, Nat.reduceLeDiff, reduceIte, reduceCtorEq, tysA, tyA, Ty.enc, Ty.encs])
      | (refine XCall.det (law19_small_ok [⟨c, ts⟩, ⟨d, us⟩] _) ?_; simp -implicitDefEqProofs only [hs, rs_law19_FormSums, Bool.not_eq_true', Bool.not_eq_false', go_sem, eq_self, Nat.reduceEqDiff, Nat.reduceBEq, Nat.reduceAdd, Nat.reduceLeDiff, reduceIte, reduceCtorEq, tysA, tyA, Ty.enc, Ty.encs])
      | (refine xo_gs rfl (fun h => ?_) (fun h => ?_) <;> first | (cases h; done) | simp -implicitDefEqProofs only [hs, rs_law19_FormSums, Bool.not_eq_true', Bool.not_eq_false', go_sem, eq_self, Nat.reduceEqDiff, Nat.reduceBEq, Nat.reduceAdd, Nat.reduceLeDiff, reduceIte, reduceCtorEq, tysA, tyA, Ty.enc, Ty.encs])
      | (refine ⟨fun h => ?_, fun h => ?_⟩ <;> first | (cases h; done) | (simp -implicitDefEqProofs only [h]; done) | (try simp -implicitDefEqProofs only [h]))
      | fail))
  | true =>
    (repeat' (first
      | refine Run.seq ?_
      | refine Run.skip ?_
      | refine Run.block ?_
      | refine Run.blk ?_
      | refine Run.scope ?_
      | refine Run.scp ?_
      | (refine Run.exit rfl ?_)
      | (refine Run.reg mixed ?_; simp -implicitDefEqProofs only [hs, resA, linA, sameL_self, BEq.rfl, bne_self_eq_false, rs_law19_FormSums, Bool.not_eq_true', Bool.not_eq_false', go_sem, eq_self, Nat.reduceEqDiff, Nat.reduceBEq, Nat.reduceAdd, Nat.reduceLeDiff, reduceIte, reduceCtorEq, tysA, tyA, Ty.enc, Ty.encs])
      | (refine Run.condM ?_; simp -implicitDefEqProofs only [hs, resA, linA, sameL_self, BEq.rfl, bne_self_eq_false, rs_law19_FormSums, Bool.not_eq_true', Bool.not_eq_false', go_sem, eq_self, Nat.reduceEqDiff, Nat.reduceBEq, Nat.reduceAdd, Nat.reduceLeDiff, reduceIte, reduceCtorEq, tysA, tyA, Ty.enc, Ty.encs])
      | (refine Run.retP g_law19_FormSums (Heap.le_refl _) ?_; simp -implicitDefEqProofs only [rs_law19_FormSums, hs, resA, linA, sameL_self, BEq.rfl, bne_self_eq_false, go_sem, eq_self, Nat.reduceEqDiff, Nat.reduceBEq, Nat.reduceAdd, Nat.reduceLeDiff, reduceIte, reduceCtorEq, tysA, tyA, Ty.enc, Ty.encs])
      | (refine XCall.det (law19_small_ok [⟨c, ts⟩, ⟨d, us⟩] _) ?_; simp -implicitDefEqProofs only [hs, resA, linA, sameL_self, BEq.rfl, bne_self_eq_false, rs_law19_FormSums, Bool.not_eq_true', Bool.not_eq_false', go_sem, eq_self, Nat.reduceEqDiff, Nat.reduceBEq, Nat.reduceAdd, Nat.reduceLeDiff, reduceIte, reduceCtorEq, tysA, tyA, Ty.enc, Ty.encs])
      | (refine XCall.det (linear_Add_ok ⟨c, ts⟩ ⟨d, us⟩ _) ?_; simp -implicitDefEqProofs only [hs, resA, linA, sameL_self, BEq.rfl, bne_self_eq_false, rs_law19_FormSums, Bool.not_eq_true', Bool.not_eq_false', go_sem, eq_self, Nat.reduceEqDiff, Nat.reduceBEq, Nat.reduceAdd, Nat.reduceLeDiff, reduceIte, reduceCtorEq, tysA, tyA, Ty.enc, Ty.encs])
      | (refine XCall.det (r19_Add_ok ⟨c, ts⟩ ⟨d, us⟩ _) ?_; simp -implicitDefEqProofs only [hs, resA, linA, sameL_self, BEq.rfl, bne_self_eq_false, rs_law19_FormSums, Bool.not_eq_true', Bool.not_eq_false', go_sem, eq_self, Nat.reduceEqDiff, Nat.reduceBEq, Nat.reduceAdd, Nat.reduceLeDiff, reduceIte, reduceCtorEq, tysA, tyA, Ty.enc, Ty.encs])
      | (refine XCall.det (linear_Sub_ok ⟨c, ts⟩ ⟨d, us⟩ _) ?_; simp -implicitDefEqProofs only [hs, resA, linA, sameL_self, BEq.rfl, bne_self_eq_false, rs_law19_FormSums, Bool.not_eq_true', Bool.not_eq_false', go_sem, eq_self, Nat.reduceEqDiff, Nat.reduceBEq, Nat.reduceAdd, Nat.reduceLeDiff, reduceIte, reduceCtorEq, tysA, tyA, Ty.enc, Ty.encs])
      | (refine XCall.det (r19_Sub_ok ⟨c, ts⟩ ⟨d, us⟩ _) ?_; simp -implicitDefEqProofs only [hs, resA, linA, sameL_self, BEq.rfl, bne_self_eq_false, rs_law19_FormSums, Bool.not_eq_true', Bool.not_eq_false', go_sem, eq_self, Nat.reduceEqDiff, Nat.reduceBEq, Nat.reduceAdd, Nat.reduceLeDiff, reduceIte, reduceCtorEq, tysA, tyA, Ty.enc, Ty.encs])
      | (refine XCall.det (linear_Scale_ok ⟨c, ts⟩ n _) ?_; simp -implicitDefEqProofs only [hs, resA, linA, sameL_self, BEq.rfl, bne_self_eq_false, rs_law19_FormSums, Bool.not_eq_true', Bool.not_eq_false', go_sem, eq_self, Nat.reduceEqDiff, Nat.reduceBEq, Nat.reduceAdd, Nat.reduceLeDiff, reduceIte, reduceCtorEq, tysA, tyA, Ty.enc, Ty.encs])
      | (refine XCall.det (r19_Scale_ok ⟨c, ts⟩ n _) ?_; simp -implicitDefEqProofs only [hs, resA, linA, sameL_self, BEq.rfl, bne_self_eq_false, rs_law19_FormSums, Bool.not_eq_true', Bool.not_eq_false', go_sem, eq_self, Nat.reduceEqDiff, Nat.reduceBEq, Nat.reduceAdd, Nat.reduceLeDiff, reduceIte, reduceCtorEq, tysA, tyA, Ty.enc, Ty.encs])
      | (refine XCall.det (keep_SameLin_ok (addP ⟨c, ts⟩ ⟨d, us⟩).1 (addP ⟨c, ts⟩ ⟨d, us⟩).1 _) ?_; simp -implicitDefEqProofs only [hs, resA, linA, sameL_self, BEq.rfl, bne_self_eq_false, rs_law19_FormSums, Bool.not_eq_true', Bool.not_eq_false', go_sem, eq_self, Nat.reduceEqDiff, Nat.reduceBEq, Nat.reduceAdd, Nat.reduceLeDiff, reduceIte, reduceCtorEq, tysA, tyA, Ty.enc, Ty.encs])
      | (refine XCall.det (keep_SameLin_ok (subP ⟨c, ts⟩ ⟨d, us⟩).1 (subP ⟨c, ts⟩ ⟨d, us⟩).1 _) ?_; simp -implicitDefEqProofs only [hs, resA, linA, sameL_self, BEq.rfl, bne_self_eq_false, rs_law19_FormSums, Bool.not_eq_true', Bool.not_eq_false', go_sem, eq_self, Nat.reduceEqDiff, Nat.reduceBEq, Nat.reduceAdd, Nat.reduceLeDiff, reduceIte, reduceCtorEq, tysA, tyA, Ty.enc, Ty.encs])
      | (refine XCall.det (keep_SameLin_ok (scaleP ⟨c, ts⟩ n).1 (scaleP ⟨c, ts⟩ n).1 _) ?_; simp -implicitDefEqProofs only [hs, resA, linA, sameL_self, BEq.rfl, bne_self_eq_false, rs_law19_FormSums, Bool.not_eq_true', Bool.not_eq_false', go_sem, eq_self, Nat.reduceEqDiff, Nat.reduceBEq, Nat.reduceAdd, Nat.reduceLeDiff, reduceIte, reduceCtorEq, tysA, tyA, Ty.enc, Ty.encs])
      | (refine XCall.det (awake_ok _ ht) ?_; simp -implicitDefEqProofs only [hs, resA, linA, sameL_self, BEq.rfl, bne_self_eq_false, rs_law19_FormSums, Bool.not_eq_true', Bool.not_eq_false', go_sem, eq_self, Nat.reduceEqDiff, Nat.reduceBEq, Nat.reduceAdd, Nat.reduceLeDiff, reduceIte, reduceCtorEq, tysA, tyA, Ty.enc, Ty.encs])
      | (refine xo_gs rfl (fun h => ?_) (fun h => ?_) <;> first | (cases h; done) | simp -implicitDefEqProofs only [hs, resA, linA, sameL_self, BEq.rfl, bne_self_eq_false, rs_law19_FormSums, Bool.not_eq_true', Bool.not_eq_false', go_sem, eq_self, Nat.reduceEqDiff, Nat.reduceBEq, Nat.reduceAdd, Nat.reduceLeDiff, reduceIte, reduceCtorEq, tysA, tyA, Ty.enc, Ty.encs])
      | (refine ⟨fun h => ?_, fun h => ?_⟩ <;> first | (cases h; done) | (simp -implicitDefEqProofs only [h]; done) | (try simp -implicitDefEqProofs only [h]))
      | fail))
end Go.Ab

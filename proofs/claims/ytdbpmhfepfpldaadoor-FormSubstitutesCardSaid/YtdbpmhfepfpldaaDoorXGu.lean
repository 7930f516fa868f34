/- The reference's substitution; the law FormSubstitutes. Conditions: the table of powers of ten is laid. -/
import Derived.Test.YtdbpmhfepfpldaaDoorXGt
import Derived.Test.YtdbpmhfepfpldaaDoorXGk
set_option linter.unusedSimpArgs false
set_option linter.unusedVariables false
namespace Go.Ab
open Go.Proofs

theorem dup_of_eq {vars : List Int} {i k : Nat} {x : Int} (hki : k < i) (hi : vars[i]? = some x) (hk : vars[k]? = some x) : dupB vars = true := by
  unfold dupB
  simp only [Bool.not_eq_true', decide_eq_false_iff_not]
  intro hn
  have h1 := List.getElem?_eq_some_iff.1 hi
  have h2 := List.getElem?_eq_some_iff.1 hk
  exact (List.pairwise_iff_getElem.1 hn) k i h2.1 h1.1 hki (by rw [h1.2, h2.2])
theorem nodup_snoc {l : List Int} {x : Int} (h : l.Nodup) (hx : x ∉ l) : (l ++ [x]).Nodup := by
  rw [List.nodup_append]
  refine ⟨h, by simp, fun a ha b hb => ?_⟩
  simp only [List.mem_singleton] at hb
  subst hb
  intro e; subst e; exact hx ha

set_option maxHeartbeats 2000000 in
theorem r19_Subst_ok (l : Ln) (vars : List Int) (bs : List Ln) (σ : Heap) (hvl : vars.length ≤ 8) (hbl : bs.length ≤ 1000) :
    ACalls Tryd.prog 42 [linA l, isA vars, linsA bs] σ (fun v σ' => v = resA (substP l vars bs) ∧ σ' = σ) := by
  obtain ⟨c, ts⟩ := l
  refine i_r19_Subst (by simp) ?_
  rw [argF_3]
  simp only [linA, isA, linsA]
  cases hv : validP ⟨c, ts⟩ with
  | false =>
    (repeat' (first
      | refine Run.seq ?_
      | refine Run.skip ?_
      | refine Run.block ?_
      | refine Run.blk ?_
      | refine Run.scope ?_
      | refine Run.scp ?_
      | (refine Run.exit rfl ?_)
      | (refine Run.reg mixed ?_; simp -implicitDefEqProofs only [hv, rs_r19_Subst, Bool.not_eq_true', Bool.not_eq_false', go_sem, eq_self, Nat.reduceEqDiff, Nat.reduceBEq, Nat.reduceAdd, Nat.reduceLeDiff, reduceIte, reduceCtorEq, tysA, tyA, Ty.enc, Ty.encs])
      | (refine Run.condM ?_; simp -implicitDefEqProofs only [hv, rs_r19_Subst, Bool.not_eq_true', Bool.not_eq_false', go_sem, eq_self, Nat.reduceEqDiff, Nat.reduceBEq, Nat.reduceAdd, Nat.reduceLeDiff, reduceIte, reduceCtorEq, tysA, tyA, Ty.enc, Ty.encs])
      | (refine Run.retP g_r19_Subst (Heap.le_refl _) ?_; simp -implicitDefEqProofs only [rs_r19_Subst, hv, go_sem, eq_self, Nat.reduceEqDiff, Nat.reduceBEq, Nat.reduceAdd, Nat.reduceLeDiff, reduceIte, reduceCtorEq, tysA, tyA, Ty.enc, Ty.encs])
      | (refine XCall.det (r19_Valid_ok ⟨c, ts⟩ _) ?_; simp -implicitDefEqProofs only [hv, rs_r19_Subst, Bool.not_eq_true', Bool.not_eq_false', go_sem, eq_self, Nat.reduceEqDiff, Nat.reduceBEq, Nat.reduceAdd, Nat.reduceLeDiff, reduceIte, reduceCtorEq, tysA, tyA, Ty.enc, Ty.encs])
      | (refine xo_gs rfl (fun h => ?_) (fun h => ?_) <;> first | (cases h; done) | simp -implicitDefEqProofs only [hv, rs_r19_Subst, Bool.not_eq_true', Bool.not_eq_false', go_sem, eq_self, Nat.reduceEqDiff, Nat.reduceBEq, Nat.reduceAdd, Nat.reduceLeDiff, reduceIte, reduceCtorEq, tysA, tyA, Ty.enc, Ty.encs])
      | (refine ⟨fun h => ?_, fun h => ?_⟩ <;> first | (cases h; done) | (simp -implicitDefEqProofs only [h]; done) | (try simp -implicitDefEqProofs only [h]))
      | fail))
    simp [substP, hv, errR, resA, linA]
  | true =>
  obtain ⟨h1, h2, h3, h4⟩ := valid_facts hv
  have h5 := valid_var hv
  simp only at h1 h2 h3 h4 h5
  (repeat' (first
      | refine Run.seq ?_
      | refine Run.skip ?_
      | refine Run.block ?_
      | refine Run.blk ?_
      | refine Run.scope ?_
      | refine Run.scp ?_
      | (refine Run.exit rfl ?_)
      | (refine Run.reg mixed ?_; simp -implicitDefEqProofs only [hv, List.length_map, rs_r19_Subst, Bool.not_eq_true', Bool.not_eq_false', go_sem, eq_self, Nat.reduceEqDiff, Nat.reduceBEq, Nat.reduceAdd, Nat.reduceLeDiff, reduceIte, reduceCtorEq, tysA, tyA, Ty.enc, Ty.encs])
      | (refine Run.condM ?_; simp -implicitDefEqProofs only [hv, List.length_map, rs_r19_Subst, Bool.not_eq_true', Bool.not_eq_false', go_sem, eq_self, Nat.reduceEqDiff, Nat.reduceBEq, Nat.reduceAdd, Nat.reduceLeDiff, reduceIte, reduceCtorEq, tysA, tyA, Ty.enc, Ty.encs])
      | (refine XCall.det (r19_Valid_ok ⟨c, ts⟩ _) ?_; simp -implicitDefEqProofs only [hv, List.length_map, rs_r19_Subst, Bool.not_eq_true', Bool.not_eq_false', go_sem, eq_self, Nat.reduceEqDiff, Nat.reduceBEq, Nat.reduceAdd, Nat.reduceLeDiff, reduceIte, reduceCtorEq, tysA, tyA, Ty.enc, Ty.encs])
      | (refine xo_gs rfl (fun h => ?_) (fun h => ?_) <;> first | (cases h; done) | simp -implicitDefEqProofs only [hv, List.length_map, rs_r19_Subst, Bool.not_eq_true', Bool.not_eq_false', go_sem, eq_self, Nat.reduceEqDiff, Nat.reduceBEq, Nat.reduceAdd, Nat.reduceLeDiff, reduceIte, reduceCtorEq, tysA, tyA, Ty.enc, Ty.encs])
      | (refine ⟨fun h => ?_, fun h => ?_⟩ <;> first | (cases h; done) | (simp -implicitDefEqProofs only [h]; done) | (try simp -implicitDefEqProofs only [h]))
      | fail))
  refine Run.loopA ?_
  refine Run.loopI ((fun (a1 : AV) (a2 : AV) (a3 : AV) (a6 : AV) (a21 : AV) (a22 : AV) => fun (i : Nat) => put 1 a1 (put 2 a2 (put 3 a3 (put 6 a6 (put 21 a21 (put 22 a22 (put 23 (.d (.int .i64 i)) U))))))) _ _ _ _ _ _) (fun _ => putL 3 [.d (.int .i64 c), .d (.sl (ts.map tmR))] (putL 6 [.d (.int .i64 0), .nils] E)) (fun _ => σ) (fun i => i ≤ bs.length ∧ (bs.take i).all validP = true) (fun i => bs.length - i) ?_ 0 ⟨by simp, by simp⟩
  rintro i ⟨hi, hok⟩ ih
  by_cases hlt : i < bs.length
  · obtain ⟨x, hx⟩ := ex_at hlt
    have hx' := lin_at hx
    have hw1 := wrap_succ (show i + 1 ≤ 9000000000000000000 by omega)
    cases hvx : validP x with
    | false =>
      (repeat' (first
      | refine Run.seq ?_
      | refine Run.skip ?_
      | refine Run.block ?_
      | refine Run.blk ?_
      | refine Run.scope ?_
      | refine Run.scp ?_
      | (refine Run.exit rfl ?_)
      | (refine Run.reg mixed ?_; simp -implicitDefEqProofs only [lt_t hlt, hx', hvx, rs_r19_Subst, Bool.not_eq_true', Bool.not_eq_false', go_sem, eq_self, Nat.reduceEqDiff, Nat.reduceBEq, Nat.reduceAdd, Nat.reduceLeDiff, reduceIte, reduceCtorEq, tysA, tyA, Ty.enc, Ty.encs])
      | (refine Run.condM ?_; simp -implicitDefEqProofs only [lt_t hlt, hx', hvx, rs_r19_Subst, Bool.not_eq_true', Bool.not_eq_false', go_sem, eq_self, Nat.reduceEqDiff, Nat.reduceBEq, Nat.reduceAdd, Nat.reduceLeDiff, reduceIte, reduceCtorEq, tysA, tyA, Ty.enc, Ty.encs])
      | (refine Run.retP g_r19_Subst (Heap.le_refl _) ?_; simp -implicitDefEqProofs only [rs_r19_Subst, lt_t hlt, hx', hvx, go_sem, eq_self, Nat.reduceEqDiff, Nat.reduceBEq, Nat.reduceAdd, Nat.reduceLeDiff, reduceIte, reduceCtorEq, tysA, tyA, Ty.enc, Ty.encs])
      | (refine XCall.det (r19_Valid_ok x _) ?_; simp -implicitDefEqProofs only [lt_t hlt, hx', hvx, rs_r19_Subst, Bool.not_eq_true', Bool.not_eq_false', go_sem, eq_self, Nat.reduceEqDiff, Nat.reduceBEq, Nat.reduceAdd, Nat.reduceLeDiff, reduceIte, reduceCtorEq, tysA, tyA, Ty.enc, Ty.encs])
      | (refine xo_gs rfl (fun h => ?_) (fun h => ?_) <;> first | (cases h; done) | simp -implicitDefEqProofs only [lt_t hlt, hx', hvx, rs_r19_Subst, Bool.not_eq_true', Bool.not_eq_false', go_sem, eq_self, Nat.reduceEqDiff, Nat.reduceBEq, Nat.reduceAdd, Nat.reduceLeDiff, reduceIte, reduceCtorEq, tysA, tyA, Ty.enc, Ty.encs])
      | (refine ⟨fun h => ?_, fun h => ?_⟩ <;> first | (cases h; done) | (simp -implicitDefEqProofs only [h]; done) | (try simp -implicitDefEqProofs only [h]))
      | fail))
      have := not_allL hx hvx
      simp [substP, this, errR, resA, linA]
    | true =>
      (repeat' (first
      | refine Run.seq ?_
      | refine Run.skip ?_
      | refine Run.block ?_
      | refine Run.blk ?_
      | refine Run.scope ?_
      | refine Run.scp ?_
      | (refine Run.exit rfl ?_)
      | (refine Run.reg mixed ?_; simp -implicitDefEqProofs only [lt_t hlt, hx', hvx, hw1, rs_r19_Subst, Bool.not_eq_true', Bool.not_eq_false', go_sem, eq_self, Nat.reduceEqDiff, Nat.reduceBEq, Nat.reduceAdd, Nat.reduceLeDiff, reduceIte, reduceCtorEq, tysA, tyA, Ty.enc, Ty.encs])
      | (refine Run.condM ?_; simp -implicitDefEqProofs only [lt_t hlt, hx', hvx, hw1, rs_r19_Subst, Bool.not_eq_true', Bool.not_eq_false', go_sem, eq_self, Nat.reduceEqDiff, Nat.reduceBEq, Nat.reduceAdd, Nat.reduceLeDiff, reduceIte, reduceCtorEq, tysA, tyA, Ty.enc, Ty.encs])
      | (refine XCall.det (r19_Valid_ok x _) ?_; simp -implicitDefEqProofs only [lt_t hlt, hx', hvx, hw1, rs_r19_Subst, Bool.not_eq_true', Bool.not_eq_false', go_sem, eq_self, Nat.reduceEqDiff, Nat.reduceBEq, Nat.reduceAdd, Nat.reduceLeDiff, reduceIte, reduceCtorEq, tysA, tyA, Ty.enc, Ty.encs])
      | (refine xo_gs rfl (fun h => ?_) (fun h => ?_) <;> first | (cases h; done) | simp -implicitDefEqProofs only [lt_t hlt, hx', hvx, hw1, rs_r19_Subst, Bool.not_eq_true', Bool.not_eq_false', go_sem, eq_self, Nat.reduceEqDiff, Nat.reduceBEq, Nat.reduceAdd, Nat.reduceLeDiff, reduceIte, reduceCtorEq, tysA, tyA, Ty.enc, Ty.encs])
      | (refine ⟨fun h => ?_, fun h => ?_⟩ <;> first | (cases h; done) | (simp -implicitDefEqProofs only [h]; done) | (try simp -implicitDefEqProofs only [h]))
      | fail))
      exact ih (i + 1) ⟨by omega, all_takeL hok hx hvx⟩ (by omega)
  rw [List.take_of_length_le (by omega)] at hok
  have hb := hok
  by_cases hvb : vars.length = bs.length
  case neg =>
    have hne : ((vars.length : Int) != (bs.length : Int)) = true := by rw [neNat]; simpa using hvb
    (repeat' (first
      | refine Run.seq ?_
      | refine Run.skip ?_
      | refine Run.block ?_
      | refine Run.blk ?_
      | refine Run.scope ?_
      | refine Run.scp ?_
      | (refine Run.exit rfl ?_)
      | (refine Run.reg mixed ?_; simp -implicitDefEqProofs only [lt_f hlt, hne, List.length_map, rs_r19_Subst, Bool.not_eq_true', Bool.not_eq_false', go_sem, eq_self, Nat.reduceEqDiff, Nat.reduceBEq, Nat.reduceAdd, Nat.reduceLeDiff, reduceIte, reduceCtorEq, tysA, tyA, Ty.enc, Ty.encs])
      | (refine Run.condM ?_; simp -implicitDefEqProofs only [lt_f hlt, hne, List.length_map, rs_r19_Subst, Bool.not_eq_true', Bool.not_eq_false', go_sem, eq_self, Nat.reduceEqDiff, Nat.reduceBEq, Nat.reduceAdd, Nat.reduceLeDiff, reduceIte, reduceCtorEq, tysA, tyA, Ty.enc, Ty.encs])
      | (refine Run.retP g_r19_Subst (Heap.le_refl _) ?_; simp -implicitDefEqProofs only [rs_r19_Subst, lt_f hlt, hne, List.length_map, go_sem, eq_self, Nat.reduceEqDiff, Nat.reduceBEq, Nat.reduceAdd, Nat.reduceLeDiff, reduceIte, reduceCtorEq, tysA, tyA, Ty.enc, Ty.encs])
      | (refine xo_gs rfl (fun h => ?_) (fun h => ?_) <;> first | (cases h; done) | simp -implicitDefEqProofs only [lt_f hlt, hne, List.length_map, rs_r19_Subst, Bool.not_eq_true', Bool.not_eq_false', go_sem, eq_self, Nat.reduceEqDiff, Nat.reduceBEq, Nat.reduceAdd, Nat.reduceLeDiff, reduceIte, reduceCtorEq, tysA, tyA, Ty.enc, Ty.encs])
      | (refine ⟨fun h => ?_, fun h => ?_⟩ <;> first | (cases h; done) | (simp -implicitDefEqProofs only [h]; done) | (try simp -implicitDefEqProofs only [h]))
      | fail))
    simp [substP, hv, hb, hvb, errR, resA, linA]
  have hne : ((vars.length : Int) != (bs.length : Int)) = false := by rw [neNat]; simpa using hvb
  (repeat' (first
      | refine Run.seq ?_
      | refine Run.skip ?_
      | refine Run.block ?_
      | refine Run.blk ?_
      | refine Run.scope ?_
      | refine Run.scp ?_
      | (refine Run.exit rfl ?_)
      | (refine Run.reg mixed ?_; simp -implicitDefEqProofs only [lt_f hlt, hne, List.length_map, rs_r19_Subst, Bool.not_eq_true', Bool.not_eq_false', go_sem, eq_self, Nat.reduceEqDiff, Nat.reduceBEq, Nat.reduceAdd, Nat.reduceLeDiff, reduceIte, reduceCtorEq, tysA, tyA, Ty.enc, Ty.encs])
      | (refine Run.condM ?_; simp -implicitDefEqProofs only [lt_f hlt, hne, List.length_map, rs_r19_Subst, Bool.not_eq_true', Bool.not_eq_false', go_sem, eq_self, Nat.reduceEqDiff, Nat.reduceBEq, Nat.reduceAdd, Nat.reduceLeDiff, reduceIte, reduceCtorEq, tysA, tyA, Ty.enc, Ty.encs])
      | (refine xo_gs rfl (fun h => ?_) (fun h => ?_) <;> first | (cases h; done) | simp -implicitDefEqProofs only [lt_f hlt, hne, List.length_map, rs_r19_Subst, Bool.not_eq_true', Bool.not_eq_false', go_sem, eq_self, Nat.reduceEqDiff, Nat.reduceBEq, Nat.reduceAdd, Nat.reduceLeDiff, reduceIte, reduceCtorEq, tysA, tyA, Ty.enc, Ty.encs])
      | (refine ⟨fun h => ?_, fun h => ?_⟩ <;> first | (cases h; done) | (simp -implicitDefEqProofs only [h]; done) | (try simp -implicitDefEqProofs only [h]))
      | fail))
  refine Run.loopA ?_
  refine Run.loopI ((fun (a1 : AV) (a2 : AV) (a3 : AV) (a6 : AV) (a39 : AV) => fun (i : Nat) => put 1 a1 (put 2 a2 (put 3 a3 (put 6 a6 (put 39 a39 (put 40 (.d (.int .i64 i)) U)))))) _ _ _ _ _) (fun _ => putL 3 [.d (.int .i64 c), .d (.sl (ts.map tmR))] (putL 6 [.d (.int .i64 0), .nils] E)) (fun _ => σ) (fun i => i ≤ vars.length ∧ (vars.take i).Nodup) (fun i => vars.length - i) ?_ 0 ⟨by simp, by simp⟩
  rintro p ⟨hp, hnd⟩ ih2
  by_cases hpl : p < vars.length
  · obtain ⟨x, hx⟩ := ex_at hpl
    have hx' := int_at hx
    have hwp := wrap_succ (show p + 1 ≤ 9000000000000000000 by omega)
    (repeat' (first
      | refine Run.seq ?_
      | refine Run.skip ?_
      | refine Run.block ?_
      | refine Run.blk ?_
      | refine Run.scope ?_
      | refine Run.scp ?_
      | (refine Run.exit rfl ?_)
      | (refine Run.reg mixed ?_; simp -implicitDefEqProofs only [lt_t hpl, rs_r19_Subst, Bool.not_eq_true', Bool.not_eq_false', go_sem, eq_self, Nat.reduceEqDiff, Nat.reduceBEq, Nat.reduceAdd, Nat.reduceLeDiff, reduceIte, reduceCtorEq, tysA, tyA, Ty.enc, Ty.encs])
      | (refine Run.condM ?_; simp -implicitDefEqProofs only [lt_t hpl, rs_r19_Subst, Bool.not_eq_true', Bool.not_eq_false', go_sem, eq_self, Nat.reduceEqDiff, Nat.reduceBEq, Nat.reduceAdd, Nat.reduceLeDiff, reduceIte, reduceCtorEq, tysA, tyA, Ty.enc, Ty.encs])
      | (refine xo_gs rfl (fun h => ?_) (fun h => ?_) <;> first | (cases h; done) | simp -implicitDefEqProofs only [lt_t hpl, rs_r19_Subst, Bool.not_eq_true', Bool.not_eq_false', go_sem, eq_self, Nat.reduceEqDiff, Nat.reduceBEq, Nat.reduceAdd, Nat.reduceLeDiff, reduceIte, reduceCtorEq, tysA, tyA, Ty.enc, Ty.encs])
      | (refine ⟨fun h => ?_, fun h => ?_⟩ <;> first | (cases h; done) | (simp -implicitDefEqProofs only [h]; done) | (try simp -implicitDefEqProofs only [h]))
      | fail))
    refine Run.loopA ?_
    refine Run.loopI ((fun (a1 : AV) (a2 : AV) (a3 : AV) (a6 : AV) (a10 : AV) (a39 : AV) (a40 : AV) => fun (k : Nat) => put 1 a1 (put 2 a2 (put 3 a3 (put 6 a6 (put 10 a10 (put 11 (.d (.int .i64 k)) (put 39 a39 (put 40 a40 U)))))))) _ _ _ _ _ _ _) (fun _ => putL 3 [.d (.int .i64 c), .d (.sl (ts.map tmR))] (putL 6 [.d (.int .i64 0), .nils] E)) (fun _ => σ) (fun k => k ≤ p ∧ x ∉ vars.take k) (fun k => p - k) ?_ 0 ⟨by simp, by simp⟩
    rintro k ⟨hk, hno⟩ ih3
    by_cases hkp : k < p
    · obtain ⟨y, hy⟩ := ex_at (show k < vars.length by omega)
      have hy' := int_at hy
      have hwk := wrap_succ (show k + 1 ≤ 9000000000000000000 by omega)
      by_cases hxy : x = y
      · (repeat' (first
      | refine Run.seq ?_
      | refine Run.skip ?_
      | refine Run.block ?_
      | refine Run.blk ?_
      | refine Run.scope ?_
      | refine Run.scp ?_
      | (refine Run.exit rfl ?_)
      | (refine Run.reg mixed ?_; simp -implicitDefEqProofs only [lt_t hkp, hx', hy', beqT hxy, rs_r19_Subst, Bool.not_eq_true', Bool.not_eq_false', go_sem, eq_self, Nat.reduceEqDiff, Nat.reduceBEq, Nat.reduceAdd, Nat.reduceLeDiff, reduceIte, reduceCtorEq, tysA, tyA, Ty.enc, Ty.encs])
      | (refine Run.condM ?_; simp -implicitDefEqProofs only [lt_t hkp, hx', hy', beqT hxy, rs_r19_Subst, Bool.not_eq_true', Bool.not_eq_false', go_sem, eq_self, Nat.reduceEqDiff, Nat.reduceBEq, Nat.reduceAdd, Nat.reduceLeDiff, reduceIte, reduceCtorEq, tysA, tyA, Ty.enc, Ty.encs])
      | (refine Run.retP g_r19_Subst (Heap.le_refl _) ?_; simp -implicitDefEqProofs only [rs_r19_Subst, lt_t hkp, hx', hy', beqT hxy, go_sem, eq_self, Nat.reduceEqDiff, Nat.reduceBEq, Nat.reduceAdd, Nat.reduceLeDiff, reduceIte, reduceCtorEq, tysA, tyA, Ty.enc, Ty.encs])
      | (refine xo_gs rfl (fun h => ?_) (fun h => ?_) <;> first | (cases h; done) | simp -implicitDefEqProofs only [lt_t hkp, hx', hy', beqT hxy, rs_r19_Subst, Bool.not_eq_true', Bool.not_eq_false', go_sem, eq_self, Nat.reduceEqDiff, Nat.reduceBEq, Nat.reduceAdd, Nat.reduceLeDiff, reduceIte, reduceCtorEq, tysA, tyA, Ty.enc, Ty.encs])
      | (refine ⟨fun h => ?_, fun h => ?_⟩ <;> first | (cases h; done) | (simp -implicitDefEqProofs only [h]; done) | (try simp -implicitDefEqProofs only [h]))
      | fail))
        have := dup_of_eq hkp hx (by rw [hy, hxy])
        simp [substP, hv, hb, hvb, this, errR, resA, linA]
      · (repeat' (first
      | refine Run.seq ?_
      | refine Run.skip ?_
      | refine Run.block ?_
      | refine Run.blk ?_
      | refine Run.scope ?_
      | refine Run.scp ?_
      | (refine Run.exit rfl ?_)
      | (refine Run.reg mixed ?_; simp -implicitDefEqProofs only [lt_t hkp, hx', hy', beqF hxy, hwk, rs_r19_Subst, Bool.not_eq_true', Bool.not_eq_false', go_sem, eq_self, Nat.reduceEqDiff, Nat.reduceBEq, Nat.reduceAdd, Nat.reduceLeDiff, reduceIte, reduceCtorEq, tysA, tyA, Ty.enc, Ty.encs])
      | (refine Run.condM ?_; simp -implicitDefEqProofs only [lt_t hkp, hx', hy', beqF hxy, hwk, rs_r19_Subst, Bool.not_eq_true', Bool.not_eq_false', go_sem, eq_self, Nat.reduceEqDiff, Nat.reduceBEq, Nat.reduceAdd, Nat.reduceLeDiff, reduceIte, reduceCtorEq, tysA, tyA, Ty.enc, Ty.encs])
      | (refine xo_gs rfl (fun h => ?_) (fun h => ?_) <;> first | (cases h; done) | simp -implicitDefEqProofs only [lt_t hkp, hx', hy', beqF hxy, hwk, rs_r19_Subst, Bool.not_eq_true', Bool.not_eq_false', go_sem, eq_self, Nat.reduceEqDiff, Nat.reduceBEq, Nat.reduceAdd, Nat.reduceLeDiff, reduceIte, reduceCtorEq, tysA, tyA, Ty.enc, Ty.encs])
      | (refine ⟨fun h => ?_, fun h => ?_⟩ <;> first | (cases h; done) | (simp -implicitDefEqProofs only [h]; done) | (try simp -implicitDefEqProofs only [h]))
      | fail))
        refine ih3 (k + 1) ⟨by omega, ?_⟩ (by omega)
        rw [List.take_add_one, hy]
        simp only [Option.toList_some, List.mem_append, List.mem_singleton, not_or]
        exact ⟨hno, hxy⟩
    · have : k = p := by omega
      subst this
      (repeat' (first
      | refine Run.seq ?_
      | refine Run.skip ?_
      | refine Run.block ?_
      | refine Run.blk ?_
      | refine Run.scope ?_
      | refine Run.scp ?_
      | (refine Run.exit rfl ?_)
      | (refine Run.reg mixed ?_; simp -implicitDefEqProofs only [lt_f hkp, hwp, rs_r19_Subst, Bool.not_eq_true', Bool.not_eq_false', go_sem, eq_self, Nat.reduceEqDiff, Nat.reduceBEq, Nat.reduceAdd, Nat.reduceLeDiff, reduceIte, reduceCtorEq, tysA, tyA, Ty.enc, Ty.encs])
      | (refine Run.condM ?_; simp -implicitDefEqProofs only [lt_f hkp, hwp, rs_r19_Subst, Bool.not_eq_true', Bool.not_eq_false', go_sem, eq_self, Nat.reduceEqDiff, Nat.reduceBEq, Nat.reduceAdd, Nat.reduceLeDiff, reduceIte, reduceCtorEq, tysA, tyA, Ty.enc, Ty.encs])
      | (refine xo_gs rfl (fun h => ?_) (fun h => ?_) <;> first | (cases h; done) | simp -implicitDefEqProofs only [lt_f hkp, hwp, rs_r19_Subst, Bool.not_eq_true', Bool.not_eq_false', go_sem, eq_self, Nat.reduceEqDiff, Nat.reduceBEq, Nat.reduceAdd, Nat.reduceLeDiff, reduceIte, reduceCtorEq, tysA, tyA, Ty.enc, Ty.encs])
      | (refine ⟨fun h => ?_, fun h => ?_⟩ <;> first | (cases h; done) | (simp -implicitDefEqProofs only [h]; done) | (try simp -implicitDefEqProofs only [h]))
      | fail))
      refine ih2 (k + 1) ⟨by omega, ?_⟩ (by omega)
      rw [List.take_add_one, hx]
      exact nodup_snoc hnd hno
  rw [List.take_of_length_le (by omega)] at hnd
  have hd : dupB vars = false := by simp [dupB, hnd]
  (repeat' (first
      | refine Run.seq ?_
      | refine Run.skip ?_
      | refine Run.block ?_
      | refine Run.blk ?_
      | refine Run.scope ?_
      | refine Run.scp ?_
      | (refine Run.exit rfl ?_)
      | (refine Run.reg mixed ?_; simp -implicitDefEqProofs only [lt_f hpl, List.length_map, rs_r19_Subst, Bool.not_eq_true', Bool.not_eq_false', go_sem, eq_self, Nat.reduceEqDiff, Nat.reduceBEq, Nat.reduceAdd, Nat.reduceLeDiff, reduceIte, reduceCtorEq, tysA, tyA, Ty.enc, Ty.encs])
      | (refine Run.condM ?_; simp -implicitDefEqProofs only [lt_f hpl, List.length_map, rs_r19_Subst, Bool.not_eq_true', Bool.not_eq_false', go_sem, eq_self, Nat.reduceEqDiff, Nat.reduceBEq, Nat.reduceAdd, Nat.reduceLeDiff, reduceIte, reduceCtorEq, tysA, tyA, Ty.enc, Ty.encs])
      | (refine xo_gs rfl (fun h => ?_) (fun h => ?_) <;> first | (cases h; done) | simp -implicitDefEqProofs only [lt_f hpl, List.length_map, rs_r19_Subst, Bool.not_eq_true', Bool.not_eq_false', go_sem, eq_self, Nat.reduceEqDiff, Nat.reduceBEq, Nat.reduceAdd, Nat.reduceLeDiff, reduceIte, reduceCtorEq, tysA, tyA, Ty.enc, Ty.encs])
      | (refine ⟨fun h => ?_, fun h => ?_⟩ <;> first | (cases h; done) | (simp -implicitDefEqProofs only [h]; done) | (try simp -implicitDefEqProofs only [h]))
      | fail))
  refine Run.plainL (L' := putL 6 [.d (.int .i64 0), .nils] (putL 12 [.d (.int .i64 c), .d (.sl [])] E)) (fun q cs' hq => ?_) ?_
  · simp only [putL] at hq ⊢
    split at hq
    · rename_i e; subst e; cases hq; exact ⟨_, rfl, .inl rfl⟩
    · rename_i e
      split at hq
      · rename_i e'; subst e'; cases hq; exact ⟨_, rfl, .inr rfl⟩
      · cases hq
  refine Run.loopA ?_
  refine Run.loopI ((fun (a1 : AV) (a2 : AV) (a6 : AV) (a12 : AV) (a63 : AV) (a64 : AV) => fun (y : Nat × Int × Tms) => put 1 a1 (put 2 a2 (put 6 a6 (put 12 a12 (put 63 a63 (put 64 a64 (put 65 (.d (.int .i64 y.1)) U))))))) _ _ _ _ _ _) (fun y => putL 6 [.d (.int .i64 0), .nils] (putL 12 [.d (.int .i64 y.2.1), .d (.sl (y.2.2.map tmR))] E)) (fun _ => σ)
    (fun y => y.1 ≤ ts.length ∧ y.2.1 = c + sumC vars bs (ts.take y.1) ∧ y.2.2 = addAll [] (sumT vars bs (ts.take y.1))) (fun y => ts.length - y.1) ?_ (0, c, []) ⟨by simp, by simp [sumC], by simp [sumT, addAll]⟩
  rintro ⟨i, n, acc⟩ ⟨hi, hn, hacc⟩ ih4
  simp only at hi hn hacc
  have hbt : ∀ x ∈ ts.take i, -1048576 ≤ x.2 ∧ x.2 ≤ 1048576 := fun x hx => h2 x (List.mem_of_mem_take hx)
  have hsc := sumC_bd (vars := vars) hb hbt
  obtain ⟨hst1, hst2⟩ := sumT_bd (vars := vars) hb hbt
  have hlt' : (ts.take i).length = i := by simp; omega
  rw [hlt'] at hsc hst2
  have haB := addAll_bnd (l := sumT vars bs (ts.take i)) (acc := []) (B := 0) (by intro x hx; cases hx) (D := 1099511627776) (by omega) hst1
  have haL := addAll_len (sumT vars bs (ts.take i)) []
  simp only [List.length_nil, Nat.zero_add] at haL
  rw [← hacc] at haB haL
  by_cases hlt4 : i < ts.length
  · obtain ⟨x, hx⟩ := ex_at hlt4
    have hx' := tm_at hx
    have hxm := List.mem_of_getElem? hx
    have hxb := h2 x hxm
    have hxv := h5 x hxm
    have hw1 := wrap_succ (show i + 1 ≤ 9000000000000000000 by omega)
    have htk : ts.take (i + 1) = ts.take i ++ [x] := by rw [List.take_add_one, hx]; rfl
    have hC := sumC_snoc vars bs x (ts.take i)
    have hT := sumT_snoc vars bs x (ts.take i)
    rw [← htk] at hC hT
    have hvar : variableP x.1 = ⟨0, [(x.1, 1)]⟩ := by
      have : vaB x.1 = true := by simp [vaB]; omega
      simp [variableP, this]
    (repeat' (first
      | refine Run.seq ?_
      | refine Run.skip ?_
      | refine Run.block ?_
      | refine Run.blk ?_
      | refine Run.scope ?_
      | refine Run.scp ?_
      | (refine Run.exit rfl ?_)
      | (refine Run.reg mixed ?_; simp -implicitDefEqProofs only [lt_t hlt4, hx', hvar, linA, List.length_map, rs_r19_Subst, Bool.not_eq_true', Bool.not_eq_false', go_sem, eq_self, Nat.reduceEqDiff, Nat.reduceBEq, Nat.reduceAdd, Nat.reduceLeDiff, reduceIte, reduceCtorEq, tysA, tyA, Ty.enc, Ty.encs])
      | (refine Run.condM ?_; simp -implicitDefEqProofs only [lt_t hlt4, hx', hvar, linA, List.length_map, rs_r19_Subst, Bool.not_eq_true', Bool.not_eq_false', go_sem, eq_self, Nat.reduceEqDiff, Nat.reduceBEq, Nat.reduceAdd, Nat.reduceLeDiff, reduceIte, reduceCtorEq, tysA, tyA, Ty.enc, Ty.encs])
      | (refine XCall.det (r19_Variable_ok x.1 _) ?_; simp -implicitDefEqProofs only [lt_t hlt4, hx', hvar, linA, List.length_map, rs_r19_Subst, Bool.not_eq_true', Bool.not_eq_false', go_sem, eq_self, Nat.reduceEqDiff, Nat.reduceBEq, Nat.reduceAdd, Nat.reduceLeDiff, reduceIte, reduceCtorEq, tysA, tyA, Ty.enc, Ty.encs])
      | (refine xo_gs rfl (fun h => ?_) (fun h => ?_) <;> first | (cases h; done) | simp -implicitDefEqProofs only [lt_t hlt4, hx', hvar, linA, List.length_map, rs_r19_Subst, Bool.not_eq_true', Bool.not_eq_false', go_sem, eq_self, Nat.reduceEqDiff, Nat.reduceBEq, Nat.reduceAdd, Nat.reduceLeDiff, reduceIte, reduceCtorEq, tysA, tyA, Ty.enc, Ty.encs])
      | (refine ⟨fun h => ?_, fun h => ?_⟩ <;> first | (cases h; done) | (simp -implicitDefEqProofs only [h]; done) | (try simp -implicitDefEqProofs only [h]))
      | fail))
    refine Run.loopA ?_
    refine Run.loopI ((fun (a1 : AV) (a2 : AV) (a6 : AV) (a12 : AV) (a14 : AV) (a15 : AV) (a63 : AV) (a64 : AV) (a65 : AV) (a73 : AV) => fun (k : Nat) => put 1 a1 (put 2 a2 (put 6 a6 (put 12 a12 (put 14 a14 (put 15 a15 (put 63 a63 (put 64 a64 (put 65 a65 (put 73 a73 (put 74 (.d (.int .i64 k)) U))))))))))) _ _ _ _ _ _ _ _ _ _) (fun k => putL 6 [.d (.int .i64 0), .nils] (putL 12 [.d (.int .i64 n), .d (.sl (acc.map tmR))] (putL 14 [.d (.int .i64 x.1), .d (.int .i64 x.2)] (putL 15 [.d (.int .i64 (pickF (vars.take k) bs x.1).c), .d (.sl ((pickF (vars.take k) bs x.1).ts.map tmR))] E)))) (fun _ => σ)
      (fun k => k ≤ vars.length) (fun k => vars.length - k) ?_ 0 (by simp)
    rintro k hk ih5
    by_cases hkl : k < vars.length
    · obtain ⟨y, hy⟩ := ex_at hkl
      have hy' := int_at hy
      have hwk := wrap_succ (show k + 1 ≤ 9000000000000000000 by omega)
      have htv : vars.take (k + 1) = vars.take k ++ [y] := by rw [List.take_add_one, hy]; rfl
      have hsn := idxN_snoc x.1 y (vars.take k)
      rw [← htv] at hsn
      by_cases hyx : y = x.1
      · obtain ⟨m, hm⟩ := ex_at (show k < bs.length by omega)
        have hm' := lin_at hm
        have hnot : x.1 ∉ vars.take k := by
          intro hmem
          obtain ⟨q, hq⟩ := List.mem_iff_getElem?.1 hmem
          rw [List.getElem?_take] at hq
          split at hq
          · rename_i hqk
            have hdd := dup_of_eq hqk hy (by rw [hq, hyx])
            rw [hd] at hdd; cases hdd
          · cases hq
        have hidx : idxN (vars.take (k + 1)) x.1 = some k := by
          rw [hsn, idxN_none hnot]
          simp only [if_pos hyx]
          simp; omega
        have hpk : pickF (vars.take (k + 1)) bs x.1 = m := by simp [pickF, hidx, hm]
        (repeat' (first
      | refine Run.seq ?_
      | refine Run.skip ?_
      | refine Run.block ?_
      | refine Run.blk ?_
      | refine Run.scope ?_
      | refine Run.scp ?_
      | (refine Run.exit rfl ?_)
      | (refine Run.reg mixed ?_; simp -implicitDefEqProofs only [lt_t hkl, hy', hm', beqT hyx, hwk, rs_r19_Subst, Bool.not_eq_true', Bool.not_eq_false', go_sem, eq_self, Nat.reduceEqDiff, Nat.reduceBEq, Nat.reduceAdd, Nat.reduceLeDiff, reduceIte, reduceCtorEq, tysA, tyA, Ty.enc, Ty.encs])
      | (refine Run.condM ?_; simp -implicitDefEqProofs only [lt_t hkl, hy', hm', beqT hyx, hwk, rs_r19_Subst, Bool.not_eq_true', Bool.not_eq_false', go_sem, eq_self, Nat.reduceEqDiff, Nat.reduceBEq, Nat.reduceAdd, Nat.reduceLeDiff, reduceIte, reduceCtorEq, tysA, tyA, Ty.enc, Ty.encs])
      | (refine xo_gs rfl (fun h => ?_) (fun h => ?_) <;> first | (cases h; done) | simp -implicitDefEqProofs only [lt_t hkl, hy', hm', beqT hyx, hwk, rs_r19_Subst, Bool.not_eq_true', Bool.not_eq_false', go_sem, eq_self, Nat.reduceEqDiff, Nat.reduceBEq, Nat.reduceAdd, Nat.reduceLeDiff, reduceIte, reduceCtorEq, tysA, tyA, Ty.enc, Ty.encs])
      | (refine ⟨fun h => ?_, fun h => ?_⟩ <;> first | (cases h; done) | (simp -implicitDefEqProofs only [h]; done) | (try simp -implicitDefEqProofs only [h]))
      | fail))
        have hih := ih5 (k + 1) (by omega) (by omega)
        simp only [hpk] at hih
        exact hih
      · have hidx : idxN (vars.take (k + 1)) x.1 = idxN (vars.take k) x.1 := by
          rw [hsn]
          cases idxN (vars.take k) x.1 with
          | some q => rfl
          | none => simp only [if_neg hyx]
        have hpk : pickF (vars.take (k + 1)) bs x.1 = pickF (vars.take k) bs x.1 := by unfold pickF; rw [hidx]
        (repeat' (first
      | refine Run.seq ?_
      | refine Run.skip ?_
      | refine Run.block ?_
      | refine Run.blk ?_
      | refine Run.scope ?_
      | refine Run.scp ?_
      | (refine Run.exit rfl ?_)
      | (refine Run.reg mixed ?_; simp -implicitDefEqProofs only [lt_t hkl, hy', beqF hyx, hwk, rs_r19_Subst, Bool.not_eq_true', Bool.not_eq_false', go_sem, eq_self, Nat.reduceEqDiff, Nat.reduceBEq, Nat.reduceAdd, Nat.reduceLeDiff, reduceIte, reduceCtorEq, tysA, tyA, Ty.enc, Ty.encs])
      | (refine Run.condM ?_; simp -implicitDefEqProofs only [lt_t hkl, hy', beqF hyx, hwk, rs_r19_Subst, Bool.not_eq_true', Bool.not_eq_false', go_sem, eq_self, Nat.reduceEqDiff, Nat.reduceBEq, Nat.reduceAdd, Nat.reduceLeDiff, reduceIte, reduceCtorEq, tysA, tyA, Ty.enc, Ty.encs])
      | (refine xo_gs rfl (fun h => ?_) (fun h => ?_) <;> first | (cases h; done) | simp -implicitDefEqProofs only [lt_t hkl, hy', beqF hyx, hwk, rs_r19_Subst, Bool.not_eq_true', Bool.not_eq_false', go_sem, eq_self, Nat.reduceEqDiff, Nat.reduceBEq, Nat.reduceAdd, Nat.reduceLeDiff, reduceIte, reduceCtorEq, tysA, tyA, Ty.enc, Ty.encs])
      | (refine ⟨fun h => ?_, fun h => ?_⟩ <;> first | (cases h; done) | (simp -implicitDefEqProofs only [h]; done) | (try simp -implicitDefEqProofs only [h]))
      | fail))
        have hih := ih5 (k + 1) (by omega) (by omega)
        simp only [hpk] at hih
        exact hih
    · have hkv : k = vars.length := by omega
      subst hkv
      rw [List.take_length]
      have hsm := pick_sm (vars := vars) hb x.1
      have hsub := subC_bd (vars := vars) hb hxb
      have hsT := subT_bd (vars := vars) hb hxb
      unfold subC at hsub
      have hp := r19_plus_ok ⟨n, acc⟩ (pickF vars bs x.1) x.2 281474976710656 σ (by omega) (by omega) (haB.up (by omega)) hsT (by simp only; omega) (by have := hsm.1; omega) (wrap_id (by omega) (by omega)) (wrap_id (by simp only; omega) (by simp only; omega))
      simp only [linA] at hp
      (repeat' (first
      | refine Run.seq ?_
      | refine Run.skip ?_
      | refine Run.block ?_
      | refine Run.blk ?_
      | refine Run.scope ?_
      | refine Run.scp ?_
      | (refine Run.exit rfl ?_)
      | (refine Run.reg mixed ?_; simp -implicitDefEqProofs only [lt_f hkl, hw1, rs_r19_Subst, Bool.not_eq_true', Bool.not_eq_false', go_sem, eq_self, Nat.reduceEqDiff, Nat.reduceBEq, Nat.reduceAdd, Nat.reduceLeDiff, reduceIte, reduceCtorEq, tysA, tyA, Ty.enc, Ty.encs])
      | (refine Run.condM ?_; simp -implicitDefEqProofs only [lt_f hkl, hw1, rs_r19_Subst, Bool.not_eq_true', Bool.not_eq_false', go_sem, eq_self, Nat.reduceEqDiff, Nat.reduceBEq, Nat.reduceAdd, Nat.reduceLeDiff, reduceIte, reduceCtorEq, tysA, tyA, Ty.enc, Ty.encs])
      | (refine XCall.det (hp) ?_; simp -implicitDefEqProofs only [lt_f hkl, hw1, rs_r19_Subst, Bool.not_eq_true', Bool.not_eq_false', go_sem, eq_self, Nat.reduceEqDiff, Nat.reduceBEq, Nat.reduceAdd, Nat.reduceLeDiff, reduceIte, reduceCtorEq, tysA, tyA, Ty.enc, Ty.encs])
      | (refine xo_gs rfl (fun h => ?_) (fun h => ?_) <;> first | (cases h; done) | simp -implicitDefEqProofs only [lt_f hkl, hw1, rs_r19_Subst, Bool.not_eq_true', Bool.not_eq_false', go_sem, eq_self, Nat.reduceEqDiff, Nat.reduceBEq, Nat.reduceAdd, Nat.reduceLeDiff, reduceIte, reduceCtorEq, tysA, tyA, Ty.enc, Ty.encs])
      | (refine ⟨fun h => ?_, fun h => ?_⟩ <;> first | (cases h; done) | (simp -implicitDefEqProofs only [h]; done) | (try simp -implicitDefEqProofs only [h]))
      | fail))
      refine Run.prune [1, 2, 6, 12, 63, 64, 65] ?_; simp -implicitDefEqProofs only [go_sem, eq_self, Nat.reduceEqDiff, Nat.reduceBEq, Nat.reduceAdd, Nat.reduceLeDiff, reduceIte, reduceCtorEq, tysA, tyA, Ty.enc, Ty.encs]
      refine ih4 (i + 1, n + x.2 * (pickF vars bs x.1).c, addAll acc ((pickF vars bs x.1).ts.map (mulT x.2))) ⟨by simp only; omega, ?_, ?_⟩ (by simp only; omega)
      · simp only; rw [hC, hn, subC, Int.add_assoc]
      · simp only; rw [hT, addAll_app, ← hacc]; rfl
  · have hil : i = ts.length := by omega
    subst hil
    rw [List.take_length] at hn hacc
    (repeat' (first
      | refine Run.seq ?_
      | refine Run.skip ?_
      | refine Run.block ?_
      | refine Run.blk ?_
      | refine Run.scope ?_
      | refine Run.scp ?_
      | (refine Run.exit rfl ?_)
      | (refine Run.reg mixed ?_; simp -implicitDefEqProofs only [lt_f hlt4, resA, linA, rs_r19_Subst, Bool.not_eq_true', Bool.not_eq_false', go_sem, eq_self, Nat.reduceEqDiff, Nat.reduceBEq, Nat.reduceAdd, Nat.reduceLeDiff, reduceIte, reduceCtorEq, tysA, tyA, Ty.enc, Ty.encs])
      | (refine Run.condM ?_; simp -implicitDefEqProofs only [lt_f hlt4, resA, linA, rs_r19_Subst, Bool.not_eq_true', Bool.not_eq_false', go_sem, eq_self, Nat.reduceEqDiff, Nat.reduceBEq, Nat.reduceAdd, Nat.reduceLeDiff, reduceIte, reduceCtorEq, tysA, tyA, Ty.enc, Ty.encs])
      | (refine Run.retP g_r19_Subst (Heap.le_refl _) ?_; simp -implicitDefEqProofs only [rs_r19_Subst, lt_f hlt4, resA, linA, go_sem, eq_self, Nat.reduceEqDiff, Nat.reduceBEq, Nat.reduceAdd, Nat.reduceLeDiff, reduceIte, reduceCtorEq, tysA, tyA, Ty.enc, Ty.encs])
      | (refine XCall.det (r19_checked_ok ⟨n, acc⟩ _) ?_; simp -implicitDefEqProofs only [lt_f hlt4, resA, linA, rs_r19_Subst, Bool.not_eq_true', Bool.not_eq_false', go_sem, eq_self, Nat.reduceEqDiff, Nat.reduceBEq, Nat.reduceAdd, Nat.reduceLeDiff, reduceIte, reduceCtorEq, tysA, tyA, Ty.enc, Ty.encs])
      | (refine xo_gs rfl (fun h => ?_) (fun h => ?_) <;> first | (cases h; done) | simp -implicitDefEqProofs only [lt_f hlt4, resA, linA, rs_r19_Subst, Bool.not_eq_true', Bool.not_eq_false', go_sem, eq_self, Nat.reduceEqDiff, Nat.reduceBEq, Nat.reduceAdd, Nat.reduceLeDiff, reduceIte, reduceCtorEq, tysA, tyA, Ty.enc, Ty.encs])
      | (refine ⟨fun h => ?_, fun h => ?_⟩ <;> first | (cases h; done) | (simp -implicitDefEqProofs only [h]; done) | (try simp -implicitDefEqProofs only [h]))
      | fail))
    rw [hn, hacc]
    simp [substP, hv, hb, hvb, hd, resA, linA, canTs]

theorem gt8 (n : Nat) : decide ((8 : Int) < (n : Int)) = !decide (n ≤ 8) := by
  rw [Bool.eq_iff_iff]; simp; omega

theorem FormSubstitutes_ok (l : Ln) (vars : List Int) (bs : List Ln) (σ : Heap) (ht : σ.gt powB = some powA) :
    ACalls Tryd.prog 10 [linA l, isA vars, linsA bs] σ (fun v σ' => v = .d (.bool true) ∧ σ' = σ) := by
  obtain ⟨c, ts⟩ := l
  refine i_law19_FormSubstitutes (by simp) ?_
  rw [argF_3]
  simp only [linA]
  by_cases h70 : ts.length ≤ 70
  case neg =>
    (repeat' (first
      | refine Run.seq ?_
      | refine Run.skip ?_
      | refine Run.block ?_
      | refine Run.blk ?_
      | refine Run.scope ?_
      | refine Run.scp ?_
      | (refine Run.exit rfl ?_)
      | (refine Run.reg mixed ?_; simp -implicitDefEqProofs only [decide_eq_false h70, rs_law19_FormSubstitutes, Bool.not_eq_true', Bool.not_eq_false', go_sem, eq_self, Nat.reduceEqDiff, Nat.reduceBEq, Nat.reduceAdd, Nat.reduceLeDiff, reduceIte, reduceCtorEq, tysA, tyA, Ty.enc, Ty.encs])
      | (refine Run.condM ?_; simp -implicitDefEqProofs only [decide_eq_false h70, rs_law19_FormSubstitutes, Bool.not_eq_true', Bool.not_eq_false', go_sem, eq_self, Nat.reduceEqDiff, Nat.reduceBEq, Nat.reduceAdd, Nat.reduceLeDiff, reduceIte, reduceCtorEq, tysA, tyA, Ty.enc, Ty.encs])
      | (refine Run.retP g_law19_FormSubstitutes (Heap.le_refl _) ?_; simp -implicitDefEqProofs only [rs_law19_FormSubstitutes, decide_eq_false h70, go_sem, eq_self, Nat.reduceEqDiff, Nat.reduceBEq, Nat.reduceAdd, Nat.reduceLeDiff, reduceIte, reduceCtorEq, tysA, tyA, Ty.enc, Ty.encs])
      | (refine XCall.det (keep_Lin_ok ⟨c, ts⟩ _) ?_; simp -implicitDefEqProofs only [decide_eq_false h70, rs_law19_FormSubstitutes, Bool.not_eq_true', Bool.not_eq_false', go_sem, eq_self, Nat.reduceEqDiff, Nat.reduceBEq, Nat.reduceAdd, Nat.reduceLeDiff, reduceIte, reduceCtorEq, tysA, tyA, Ty.enc, Ty.encs])
      | (refine xo_gs rfl (fun h => ?_) (fun h => ?_) <;> first | (cases h; done) | simp -implicitDefEqProofs only [decide_eq_false h70, rs_law19_FormSubstitutes, Bool.not_eq_true', Bool.not_eq_false', go_sem, eq_self, Nat.reduceEqDiff, Nat.reduceBEq, Nat.reduceAdd, Nat.reduceLeDiff, reduceIte, reduceCtorEq, tysA, tyA, Ty.enc, Ty.encs])
      | (refine ⟨fun h => ?_, fun h => ?_⟩ <;> first | (cases h; done) | (simp -implicitDefEqProofs only [h]; done) | (try simp -implicitDefEqProofs only [h]))
      | fail))
  by_cases h8 : vars.length ≤ 8
  case neg =>
    simp only [isA]
    (repeat' (first
      | refine Run.seq ?_
      | refine Run.skip ?_
      | refine Run.block ?_
      | refine Run.blk ?_
      | refine Run.scope ?_
      | refine Run.scp ?_
      | (refine Run.exit rfl ?_)
      | (refine Run.reg mixed ?_; simp -implicitDefEqProofs only [decide_eq_true h70, gt8, List.length_map, decide_eq_false h8, rs_law19_FormSubstitutes, Bool.not_eq_true', Bool.not_eq_false', go_sem, eq_self, Nat.reduceEqDiff, Nat.reduceBEq, Nat.reduceAdd, Nat.reduceLeDiff, reduceIte, reduceCtorEq, tysA, tyA, Ty.enc, Ty.encs])
      | (refine Run.condM ?_; simp -implicitDefEqProofs only [decide_eq_true h70, gt8, List.length_map, decide_eq_false h8, rs_law19_FormSubstitutes, Bool.not_eq_true', Bool.not_eq_false', go_sem, eq_self, Nat.reduceEqDiff, Nat.reduceBEq, Nat.reduceAdd, Nat.reduceLeDiff, reduceIte, reduceCtorEq, tysA, tyA, Ty.enc, Ty.encs])
      | (refine Run.retP g_law19_FormSubstitutes (Heap.le_refl _) ?_; simp -implicitDefEqProofs only [rs_law19_FormSubstitutes, decide_eq_true h70, gt8, List.length_map, decide_eq_false h8, go_sem, eq_self, Nat.reduceEqDiff, Nat.reduceBEq, Nat.reduceAdd, Nat.reduceLeDiff, reduceIte, reduceCtorEq, tysA, tyA, Ty.enc, Ty.encs])
      | (refine XCall.det (keep_Lin_ok ⟨c, ts⟩ _) ?_; simp -implicitDefEqProofs only [decide_eq_true h70, gt8, List.length_map, decide_eq_false h8, rs_law19_FormSubstitutes, Bool.not_eq_true', Bool.not_eq_false', go_sem, eq_self, Nat.reduceEqDiff, Nat.reduceBEq, Nat.reduceAdd, Nat.reduceLeDiff, reduceIte, reduceCtorEq, tysA, tyA, Ty.enc, Ty.encs])
      | (refine xo_gs rfl (fun h => ?_) (fun h => ?_) <;> first | (cases h; done) | simp -implicitDefEqProofs only [decide_eq_true h70, gt8, List.length_map, decide_eq_false h8, rs_law19_FormSubstitutes, Bool.not_eq_true', Bool.not_eq_false', go_sem, eq_self, Nat.reduceEqDiff, Nat.reduceBEq, Nat.reduceAdd, Nat.reduceLeDiff, reduceIte, reduceCtorEq, tysA, tyA, Ty.enc, Ty.encs])
      | (refine ⟨fun h => ?_, fun h => ?_⟩ <;> first | (cases h; done) | (simp -implicitDefEqProofs only [h]; done) | (try simp -implicitDefEqProofs only [h]))
      | fail))
  cases hs : smallL bs with
  | false =>
    simp only [isA]
    (repeat' (first
      | refine Run.seq ?_
      | refine Run.skip ?_
      | refine Run.block ?_
      | refine Run.blk ?_
      | refine Run.scope ?_
      | refine Run.scp ?_
      | (refine Run.exit rfl ?_)
      | (refine Run.reg mixed ?_; simp -implicitDefEqProofs only [decide_eq_true h70, gt8, List.length_map, decide_eq_true h8, hs, rs_law19_FormSubstitutes, Bool.not_eq_true', Bool.not_eq_false', go_sem, eq_self, Nat.reduceEqDiff, Nat.reduceBEq, Nat.reduceAdd, Nat.reduceLeDiff, reduceIte, reduceCtorEq, tysA, tyA, Ty.enc, Ty.encs])
      | (refine Run.condM ?_; simp -implicitDefEqProofs only [decide_eq_true h70, gt8, List.length_map, decide_eq_true h8, hs, rs_law19_FormSubstitutes, Bool.not_eq_true', Bool.not_eq_false', go_sem, eq_self, Nat.reduceEqDiff, Nat.reduceBEq, Nat.reduceAdd, Nat.reduceLeDiff, reduceIte, reduceCtorEq, tysA, tyA, Ty.enc, Ty.encs])
      | (refine Run.retP g_law19_FormSubstitutes (Heap.le_refl _) ?_; simp -implicitDefEqProofs only [rs_law19_FormSubstitutes, decide_eq_true h70, gt8, List.length_map, decide_eq_true h8, hs, go_sem, eq_self, Nat.reduceEqDiff, Nat.reduceBEq, Nat.reduceAdd, Nat.reduceLeDiff, reduceIte, reduceCtorEq, tysA, tyA, Ty.enc, Ty.encs])
      | (refine XCall.det (keep_Lin_ok ⟨c, ts⟩ _) ?_; simp -implicitDefEqProofs only [decide_eq_true h70, gt8, List.length_map, decide_eq_true h8, hs, rs_law19_FormSubstitutes, Bool.not_eq_true', Bool.not_eq_false', go_sem, eq_self, Nat.reduceEqDiff, Nat.reduceBEq, Nat.reduceAdd, Nat.reduceLeDiff, reduceIte, reduceCtorEq, tysA, tyA, Ty.enc, Ty.encs])
      | (refine XCall.det (law19_small_ok bs _) ?_; simp -implicitDefEqProofs only [decide_eq_true h70, gt8, List.length_map, decide_eq_true h8, hs, rs_law19_FormSubstitutes, Bool.not_eq_true', Bool.not_eq_false', go_sem, eq_self, Nat.reduceEqDiff, Nat.reduceBEq, Nat.reduceAdd, Nat.reduceLeDiff, reduceIte, reduceCtorEq, tysA, tyA, Ty.enc, Ty.encs])
      | (refine xo_gs rfl (fun h => ?_) (fun h => ?_) <;> first | (cases h; done) | simp -implicitDefEqProofs only [decide_eq_true h70, gt8, List.length_map, decide_eq_true h8, hs, rs_law19_FormSubstitutes, Bool.not_eq_true', Bool.not_eq_false', go_sem, eq_self, Nat.reduceEqDiff, Nat.reduceBEq, Nat.reduceAdd, Nat.reduceLeDiff, reduceIte, reduceCtorEq, tysA, tyA, Ty.enc, Ty.encs])
      | (refine ⟨fun h => ?_, fun h => ?_⟩ <;> first | (cases h; done) | (simp -implicitDefEqProofs only [h]; done) | (try simp -implicitDefEqProofs only [h]))
      | fail))
  | true =>
    have hbl : bs.length ≤ 1000 := by
      simp only [smallL, Bool.and_eq_true, decide_eq_true_eq] at hs; omega
    have e1 := linear_Subst_ok ⟨c, ts⟩ vars bs σ h8 hbl
    have e2 := r19_Subst_ok ⟨c, ts⟩ vars bs σ h8 hbl
    simp only [isA] at e1 e2 ⊢
    (repeat' (first
      | refine Run.seq ?_
      | refine Run.skip ?_
      | refine Run.block ?_
      | refine Run.blk ?_
      | refine Run.scope ?_
      | refine Run.scp ?_
      | (refine Run.exit rfl ?_)
      | (refine Run.reg mixed ?_; simp -implicitDefEqProofs only [decide_eq_true h70, gt8, List.length_map, decide_eq_true h8, hs, resA, linA, sameL_self, BEq.rfl, rs_law19_FormSubstitutes, Bool.not_eq_true', Bool.not_eq_false', go_sem, eq_self, Nat.reduceEqDiff, Nat.reduceBEq, Nat.reduceAdd, Nat.reduceLeDiff, reduceIte, reduceCtorEq, tysA, tyA, Ty.enc, Ty.encs])
      | (refine Run.condM ?_; simp -implicitDefEqProofs only [decide_eq_true h70, gt8, List.length_map, decide_eq_true h8, hs, resA, linA, sameL_self, BEq.rfl, rs_law19_FormSubstitutes, Bool.not_eq_true', Bool.not_eq_false', go_sem, eq_self, Nat.reduceEqDiff, Nat.reduceBEq, Nat.reduceAdd, Nat.reduceLeDiff, reduceIte, reduceCtorEq, tysA, tyA, Ty.enc, Ty.encs])
      | (refine Run.retP g_law19_FormSubstitutes (Heap.le_refl _) ?_; simp -implicitDefEqProofs only [rs_law19_FormSubstitutes, decide_eq_true h70, gt8, List.length_map, decide_eq_true h8, hs, resA, linA, sameL_self, BEq.rfl, go_sem, eq_self, Nat.reduceEqDiff, Nat.reduceBEq, Nat.reduceAdd, Nat.reduceLeDiff, reduceIte, reduceCtorEq, tysA, tyA, Ty.enc, Ty.encs])
      | (refine XCall.det (keep_Lin_ok ⟨c, ts⟩ _) ?_; simp -implicitDefEqProofs only [decide_eq_true h70, gt8, List.length_map, decide_eq_true h8, hs, resA, linA, sameL_self, BEq.rfl, rs_law19_FormSubstitutes, Bool.not_eq_true', Bool.not_eq_false', go_sem, eq_self, Nat.reduceEqDiff, Nat.reduceBEq, Nat.reduceAdd, Nat.reduceLeDiff, reduceIte, reduceCtorEq, tysA, tyA, Ty.enc, Ty.encs])
      | (refine XCall.det (law19_small_ok bs _) ?_; simp -implicitDefEqProofs only [decide_eq_true h70, gt8, List.length_map, decide_eq_true h8, hs, resA, linA, sameL_self, BEq.rfl, rs_law19_FormSubstitutes, Bool.not_eq_true', Bool.not_eq_false', go_sem, eq_self, Nat.reduceEqDiff, Nat.reduceBEq, Nat.reduceAdd, Nat.reduceLeDiff, reduceIte, reduceCtorEq, tysA, tyA, Ty.enc, Ty.encs])
      | (refine XCall.det (e1) ?_; simp -implicitDefEqProofs only [decide_eq_true h70, gt8, List.length_map, decide_eq_true h8, hs, resA, linA, sameL_self, BEq.rfl, rs_law19_FormSubstitutes, Bool.not_eq_true', Bool.not_eq_false', go_sem, eq_self, Nat.reduceEqDiff, Nat.reduceBEq, Nat.reduceAdd, Nat.reduceLeDiff, reduceIte, reduceCtorEq, tysA, tyA, Ty.enc, Ty.encs])
      | (refine XCall.det (e2) ?_; simp -implicitDefEqProofs only [decide_eq_true h70, gt8, List.length_map, decide_eq_true h8, hs, resA, linA, sameL_self, BEq.rfl, rs_law19_FormSubstitutes, Bool.not_eq_true', Bool.not_eq_false', go_sem, eq_self, Nat.reduceEqDiff, Nat.reduceBEq, Nat.reduceAdd, Nat.reduceLeDiff, reduceIte, reduceCtorEq, tysA, tyA, Ty.enc, Ty.encs])
      | (refine XCall.det (keep_SameLin_ok (substP ⟨c, ts⟩ vars bs).1 (substP ⟨c, ts⟩ vars bs).1 _) ?_; simp -implicitDefEqProofs only [decide_eq_true h70, gt8, List.length_map, decide_eq_true h8, hs, resA, linA, sameL_self, BEq.rfl, rs_law19_FormSubstitutes, Bool.not_eq_true', Bool.not_eq_false', go_sem, eq_self, Nat.reduceEqDiff, Nat.reduceBEq, Nat.reduceAdd, Nat.reduceLeDiff, reduceIte, reduceCtorEq, tysA, tyA, Ty.enc, Ty.encs])
      | (refine XCall.det (awake_ok _ ht) ?_; simp -implicitDefEqProofs only [decide_eq_true h70, gt8, List.length_map, decide_eq_true h8, hs, resA, linA, sameL_self, BEq.rfl, rs_law19_FormSubstitutes, Bool.not_eq_true', Bool.not_eq_false', go_sem, eq_self, Nat.reduceEqDiff, Nat.reduceBEq, Nat.reduceAdd, Nat.reduceLeDiff, reduceIte, reduceCtorEq, tysA, tyA, Ty.enc, Ty.encs])
      | (refine xo_gs rfl (fun h => ?_) (fun h => ?_) <;> first | (cases h; done) | simp -implicitDefEqProofs only [decide_eq_true h70, gt8, List.length_map, decide_eq_true h8, hs, resA, linA, sameL_self, BEq.rfl, rs_law19_FormSubstitutes, Bool.not_eq_true', Bool.not_eq_false', go_sem, eq_self, Nat.reduceEqDiff, Nat.reduceBEq, Nat.reduceAdd, Nat.reduceLeDiff, reduceIte, reduceCtorEq, tysA, tyA, Ty.enc, Ty.encs])
      | (refine ⟨fun h => ?_, fun h => ?_⟩ <;> first | (cases h; done) | (simp -implicitDefEqProofs only [h]; done) | (try simp -implicitDefEqProofs only [h]))
      | fail))
end Go.Ab

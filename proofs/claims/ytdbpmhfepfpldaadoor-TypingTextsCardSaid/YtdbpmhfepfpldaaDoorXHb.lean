/- Validity of types. Conditions: none. -/
import Derived.Test.YtdbpmhfepfpldaaDoorXHa
set_option linter.unusedSimpArgs false
set_option linter.unusedVariables false
namespace Go.Ab
open Go.Proofs

/-- What keep.Data promises. -/
def DsOk (l : List Dat) : Prop := l.length ≤ 14 ∧ ∀ d ∈ l, d.name.length ≤ 40
theorem gt14 (n : Nat) : decide ((14 : Int) < (n : Int)) = !decide (n ≤ 14) := by
  rw [Bool.eq_iff_iff]; simp; omega
theorem gt40' (n : Nat) : decide ((40 : Int) < (n : Int)) = !decide (n ≤ 40) := by
  rw [Bool.eq_iff_iff]; simp; omega
theorem gt10 (n : Nat) : decide ((10 : Int) < (n : Int)) = !decide (n ≤ 10) := by
  rw [Bool.eq_iff_iff]; simp; omega
theorem gt8' (n : Nat) : decide ((8 : Int) < (n : Int)) = !decide (n ≤ 8) := by
  rw [Bool.eq_iff_iff]; simp; omega

set_option maxHeartbeats 1000000 in
theorem keep_Data_ok (l : List Dat) (σ : Heap) : ACalls Tryd.prog 11 [dsA l] σ (fun v σ' => (∃ b, v = .d (.bool b) ∧ (b = true → DsOk l)) ∧ σ' = σ) := by
  refine i_keep_Data (by simp) ?_
  rw [argF_1, dsA]
  by_cases h14 : l.length ≤ 14
  case neg =>
    (repeat' (first
      | refine Run.seq ?_
      | refine Run.skip ?_
      | refine Run.block ?_
      | refine Run.blk ?_
      | refine Run.scope ?_
      | refine Run.scp ?_
      | (refine Run.exit rfl ?_)
      | (refine Run.reg mixed ?_; simp -implicitDefEqProofs only [gt14, List.length_map, decide_eq_false h14, rs_keep_Data, Bool.not_eq_true', Bool.not_eq_false', go_sem, eq_self, Nat.reduceEqDiff, Nat.reduceBEq, Nat.reduceAdd, Nat.reduceLeDiff, reduceIte, reduceCtorEq, tysA, tyA, Ty.enc, Ty.encs])
      | (refine Run.condM ?_; simp -implicitDefEqProofs only [gt14, List.length_map, decide_eq_false h14, rs_keep_Data, Bool.not_eq_true', Bool.not_eq_false', go_sem, eq_self, Nat.reduceEqDiff, Nat.reduceBEq, Nat.reduceAdd, Nat.reduceLeDiff, reduceIte, reduceCtorEq, tysA, tyA, Ty.enc, Ty.encs])
      | (refine Run.retP g_keep_Data (Heap.le_refl _) ?_; simp -implicitDefEqProofs only [rs_keep_Data, gt14, List.length_map, decide_eq_false h14, go_sem, eq_self, Nat.reduceEqDiff, Nat.reduceBEq, Nat.reduceAdd, Nat.reduceLeDiff, reduceIte, reduceCtorEq, tysA, tyA, Ty.enc, Ty.encs])
      | (refine xo_gs rfl (fun h => ?_) (fun h => ?_) <;> first | (cases h; done) | simp -implicitDefEqProofs only [gt14, List.length_map, decide_eq_false h14, rs_keep_Data, Bool.not_eq_true', Bool.not_eq_false', go_sem, eq_self, Nat.reduceEqDiff, Nat.reduceBEq, Nat.reduceAdd, Nat.reduceLeDiff, reduceIte, reduceCtorEq, tysA, tyA, Ty.enc, Ty.encs])
      | (refine ⟨fun h => ?_, fun h => ?_⟩ <;> first | (cases h; done) | (simp -implicitDefEqProofs only [h]; done) | (try simp -implicitDefEqProofs only [h]))
      | fail))
    exact ⟨false, rfl, fun h => by cases h⟩
  (repeat' (first
      | refine Run.seq ?_
      | refine Run.skip ?_
      | refine Run.block ?_
      | refine Run.blk ?_
      | refine Run.scope ?_
      | refine Run.scp ?_
      | (refine Run.exit rfl ?_)
      | (refine Run.reg mixed ?_; simp -implicitDefEqProofs only [gt14, List.length_map, decide_eq_true h14, rs_keep_Data, Bool.not_eq_true', Bool.not_eq_false', go_sem, eq_self, Nat.reduceEqDiff, Nat.reduceBEq, Nat.reduceAdd, Nat.reduceLeDiff, reduceIte, reduceCtorEq, tysA, tyA, Ty.enc, Ty.encs])
      | (refine Run.condM ?_; simp -implicitDefEqProofs only [gt14, List.length_map, decide_eq_true h14, rs_keep_Data, Bool.not_eq_true', Bool.not_eq_false', go_sem, eq_self, Nat.reduceEqDiff, Nat.reduceBEq, Nat.reduceAdd, Nat.reduceLeDiff, reduceIte, reduceCtorEq, tysA, tyA, Ty.enc, Ty.encs])
      | (refine xo_gs rfl (fun h => ?_) (fun h => ?_) <;> first | (cases h; done) | simp -implicitDefEqProofs only [gt14, List.length_map, decide_eq_true h14, rs_keep_Data, Bool.not_eq_true', Bool.not_eq_false', go_sem, eq_self, Nat.reduceEqDiff, Nat.reduceBEq, Nat.reduceAdd, Nat.reduceLeDiff, reduceIte, reduceCtorEq, tysA, tyA, Ty.enc, Ty.encs])
      | (refine ⟨fun h => ?_, fun h => ?_⟩ <;> first | (cases h; done) | (simp -implicitDefEqProofs only [h]; done) | (try simp -implicitDefEqProofs only [h]))
      | fail))
  refine Run.loopA ?_
  refine Run.loopI ((fun (a13 : AV) (a14 : AV) => fun (y : Nat × Heap) => put 13 a13 (put 14 a14 (put 15 (.d (.int .i64 y.1)) U))) _ _) (fun _ => E) (fun y => y.2) (fun y => y.1 ≤ l.length ∧ σ.le y.2 ∧ ∀ d ∈ l.take y.1, d.name.length ≤ 40) (fun y => l.length - y.1) ?_ (0, σ) ⟨by simp, Heap.le_refl _, by simp⟩
  rintro ⟨i, σ1⟩ ⟨hi, hle, hok⟩ ih
  simp only at hi hle hok
  by_cases hlt : i < l.length
  · obtain ⟨d, hd⟩ := ex_at hlt
    have hd' := dats_at hd
    have hw1 := wrap_succ (show i + 1 ≤ 9000000000000000000 by omega)
    by_cases h40 : d.name.length ≤ 40
    case neg =>
      (repeat' (first
      | refine Run.seq ?_
      | refine Run.skip ?_
      | refine Run.block ?_
      | refine Run.blk ?_
      | refine Run.scope ?_
      | refine Run.scp ?_
      | (refine Run.exit rfl ?_)
      | (refine Run.reg mixed ?_; simp -implicitDefEqProofs only [lt_t hlt, hd', gt40', decide_eq_false h40, rs_keep_Data, Bool.not_eq_true', Bool.not_eq_false', go_sem, eq_self, Nat.reduceEqDiff, Nat.reduceBEq, Nat.reduceAdd, Nat.reduceLeDiff, reduceIte, reduceCtorEq, tysA, tyA, Ty.enc, Ty.encs])
      | (refine Run.condM ?_; simp -implicitDefEqProofs only [lt_t hlt, hd', gt40', decide_eq_false h40, rs_keep_Data, Bool.not_eq_true', Bool.not_eq_false', go_sem, eq_self, Nat.reduceEqDiff, Nat.reduceBEq, Nat.reduceAdd, Nat.reduceLeDiff, reduceIte, reduceCtorEq, tysA, tyA, Ty.enc, Ty.encs])
      | (refine Run.retP g_keep_Data (σ2 := σ) hle ?_; (try simp -implicitDefEqProofs only [lt_t hlt, hd', gt40', decide_eq_false h40, rs_keep_Data, Bool.not_eq_true', Bool.not_eq_false', go_sem, eq_self, Nat.reduceEqDiff, Nat.reduceBEq, Nat.reduceAdd, Nat.reduceLeDiff, reduceIte, reduceCtorEq, tysA, tyA, Ty.enc, Ty.encs]))
      | (refine xo_gs rfl (fun h => ?_) (fun h => ?_) <;> first | (cases h; done) | simp -implicitDefEqProofs only [lt_t hlt, hd', gt40', decide_eq_false h40, rs_keep_Data, Bool.not_eq_true', Bool.not_eq_false', go_sem, eq_self, Nat.reduceEqDiff, Nat.reduceBEq, Nat.reduceAdd, Nat.reduceLeDiff, reduceIte, reduceCtorEq, tysA, tyA, Ty.enc, Ty.encs])
      | (refine ⟨fun h => ?_, fun h => ?_⟩ <;> first | (cases h; done) | (simp -implicitDefEqProofs only [h]; done) | (try simp -implicitDefEqProofs only [h]))
      | fail))
      exact ⟨false, rfl, fun h => by cases h⟩
    by_cases h10 : d.cons.length ≤ 10
    case neg =>
      (repeat' (first
      | refine Run.seq ?_
      | refine Run.skip ?_
      | refine Run.block ?_
      | refine Run.blk ?_
      | refine Run.scope ?_
      | refine Run.scp ?_
      | (refine Run.exit rfl ?_)
      | (refine Run.reg mixed ?_; simp -implicitDefEqProofs only [lt_t hlt, hd', gt40', decide_eq_true h40, gt10, List.length_map, decide_eq_false h10, rs_keep_Data, Bool.not_eq_true', Bool.not_eq_false', go_sem, eq_self, Nat.reduceEqDiff, Nat.reduceBEq, Nat.reduceAdd, Nat.reduceLeDiff, reduceIte, reduceCtorEq, tysA, tyA, Ty.enc, Ty.encs])
      | (refine Run.condM ?_; simp -implicitDefEqProofs only [lt_t hlt, hd', gt40', decide_eq_true h40, gt10, List.length_map, decide_eq_false h10, rs_keep_Data, Bool.not_eq_true', Bool.not_eq_false', go_sem, eq_self, Nat.reduceEqDiff, Nat.reduceBEq, Nat.reduceAdd, Nat.reduceLeDiff, reduceIte, reduceCtorEq, tysA, tyA, Ty.enc, Ty.encs])
      | (refine Run.retP g_keep_Data (σ2 := σ) hle ?_; (try simp -implicitDefEqProofs only [lt_t hlt, hd', gt40', decide_eq_true h40, gt10, List.length_map, decide_eq_false h10, rs_keep_Data, Bool.not_eq_true', Bool.not_eq_false', go_sem, eq_self, Nat.reduceEqDiff, Nat.reduceBEq, Nat.reduceAdd, Nat.reduceLeDiff, reduceIte, reduceCtorEq, tysA, tyA, Ty.enc, Ty.encs]))
      | (refine xo_gs rfl (fun h => ?_) (fun h => ?_) <;> first | (cases h; done) | simp -implicitDefEqProofs only [lt_t hlt, hd', gt40', decide_eq_true h40, gt10, List.length_map, decide_eq_false h10, rs_keep_Data, Bool.not_eq_true', Bool.not_eq_false', go_sem, eq_self, Nat.reduceEqDiff, Nat.reduceBEq, Nat.reduceAdd, Nat.reduceLeDiff, reduceIte, reduceCtorEq, tysA, tyA, Ty.enc, Ty.encs])
      | (refine ⟨fun h => ?_, fun h => ?_⟩ <;> first | (cases h; done) | (simp -implicitDefEqProofs only [h]; done) | (try simp -implicitDefEqProofs only [h]))
      | fail))
      exact ⟨false, rfl, fun h => by cases h⟩
    (repeat' (first
      | refine Run.seq ?_
      | refine Run.skip ?_
      | refine Run.block ?_
      | refine Run.blk ?_
      | refine Run.scope ?_
      | refine Run.scp ?_
      | (refine Run.exit rfl ?_)
      | (refine Run.reg mixed ?_; simp -implicitDefEqProofs only [lt_t hlt, hd', gt40', decide_eq_true h40, gt10, List.length_map, decide_eq_true h10, rs_keep_Data, Bool.not_eq_true', Bool.not_eq_false', go_sem, eq_self, Nat.reduceEqDiff, Nat.reduceBEq, Nat.reduceAdd, Nat.reduceLeDiff, reduceIte, reduceCtorEq, tysA, tyA, Ty.enc, Ty.encs])
      | (refine Run.condM ?_; simp -implicitDefEqProofs only [lt_t hlt, hd', gt40', decide_eq_true h40, gt10, List.length_map, decide_eq_true h10, rs_keep_Data, Bool.not_eq_true', Bool.not_eq_false', go_sem, eq_self, Nat.reduceEqDiff, Nat.reduceBEq, Nat.reduceAdd, Nat.reduceLeDiff, reduceIte, reduceCtorEq, tysA, tyA, Ty.enc, Ty.encs])
      | (refine xo_gs rfl (fun h => ?_) (fun h => ?_) <;> first | (cases h; done) | simp -implicitDefEqProofs only [lt_t hlt, hd', gt40', decide_eq_true h40, gt10, List.length_map, decide_eq_true h10, rs_keep_Data, Bool.not_eq_true', Bool.not_eq_false', go_sem, eq_self, Nat.reduceEqDiff, Nat.reduceBEq, Nat.reduceAdd, Nat.reduceLeDiff, reduceIte, reduceCtorEq, tysA, tyA, Ty.enc, Ty.encs])
      | (refine ⟨fun h => ?_, fun h => ?_⟩ <;> first | (cases h; done) | (simp -implicitDefEqProofs only [h]; done) | (try simp -implicitDefEqProofs only [h]))
      | fail))
    refine Run.loopA ?_
    refine Run.loopI ((fun (a13 : AV) (a14 : AV) (a15 : AV) (a30 : AV) (a31 : AV) => fun (y : Nat × Heap) => put 13 a13 (put 14 a14 (put 15 a15 (put 30 a30 (put 31 a31 (put 32 (.d (.int .i64 y.1)) U)))))) _ _ _ _ _) (fun _ => E) (fun y => y.2) (fun y => y.1 ≤ d.cons.length ∧ σ.le y.2) (fun y => d.cons.length - y.1) ?_ (0, σ1) ⟨by simp, hle⟩
    rintro ⟨p, σ2⟩ ⟨hp, hle2⟩ ih2
    simp only at hp hle2
    by_cases hpl : p < d.cons.length
    · obtain ⟨c, hc⟩ := ex_at hpl
      have hc' := cons_at hc
      have hwp := wrap_succ (show p + 1 ≤ 9000000000000000000 by omega)
      by_cases c40 : c.name.length ≤ 40
      case neg =>
        (repeat' (first
      | refine Run.seq ?_
      | refine Run.skip ?_
      | refine Run.block ?_
      | refine Run.blk ?_
      | refine Run.scope ?_
      | refine Run.scp ?_
      | (refine Run.exit rfl ?_)
      | (refine Run.reg mixed ?_; simp -implicitDefEqProofs only [lt_t hpl, hc', gt40', decide_eq_false c40, rs_keep_Data, Bool.not_eq_true', Bool.not_eq_false', go_sem, eq_self, Nat.reduceEqDiff, Nat.reduceBEq, Nat.reduceAdd, Nat.reduceLeDiff, reduceIte, reduceCtorEq, tysA, tyA, Ty.enc, Ty.encs])
      | (refine Run.condM ?_; simp -implicitDefEqProofs only [lt_t hpl, hc', gt40', decide_eq_false c40, rs_keep_Data, Bool.not_eq_true', Bool.not_eq_false', go_sem, eq_self, Nat.reduceEqDiff, Nat.reduceBEq, Nat.reduceAdd, Nat.reduceLeDiff, reduceIte, reduceCtorEq, tysA, tyA, Ty.enc, Ty.encs])
      | (refine Run.retP g_keep_Data (σ2 := σ) hle2 ?_; (try simp -implicitDefEqProofs only [lt_t hpl, hc', gt40', decide_eq_false c40, rs_keep_Data, Bool.not_eq_true', Bool.not_eq_false', go_sem, eq_self, Nat.reduceEqDiff, Nat.reduceBEq, Nat.reduceAdd, Nat.reduceLeDiff, reduceIte, reduceCtorEq, tysA, tyA, Ty.enc, Ty.encs]))
      | (refine xo_gs rfl (fun h => ?_) (fun h => ?_) <;> first | (cases h; done) | simp -implicitDefEqProofs only [lt_t hpl, hc', gt40', decide_eq_false c40, rs_keep_Data, Bool.not_eq_true', Bool.not_eq_false', go_sem, eq_self, Nat.reduceEqDiff, Nat.reduceBEq, Nat.reduceAdd, Nat.reduceLeDiff, reduceIte, reduceCtorEq, tysA, tyA, Ty.enc, Ty.encs])
      | (refine ⟨fun h => ?_, fun h => ?_⟩ <;> first | (cases h; done) | (simp -implicitDefEqProofs only [h]; done) | (try simp -implicitDefEqProofs only [h]))
      | fail))
        exact ⟨false, rfl, fun h => by cases h⟩
      by_cases c8 : c.args.length ≤ 8
      case neg =>
        (repeat' (first
      | refine Run.seq ?_
      | refine Run.skip ?_
      | refine Run.block ?_
      | refine Run.blk ?_
      | refine Run.scope ?_
      | refine Run.scp ?_
      | (refine Run.exit rfl ?_)
      | (refine Run.reg mixed ?_; simp -implicitDefEqProofs only [lt_t hpl, hc', gt40', decide_eq_true c40, gt8', encs_len, decide_eq_false c8, rs_keep_Data, Bool.not_eq_true', Bool.not_eq_false', go_sem, eq_self, Nat.reduceEqDiff, Nat.reduceBEq, Nat.reduceAdd, Nat.reduceLeDiff, reduceIte, reduceCtorEq, tysA, tyA, Ty.enc, Ty.encs])
      | (refine Run.condM ?_; simp -implicitDefEqProofs only [lt_t hpl, hc', gt40', decide_eq_true c40, gt8', encs_len, decide_eq_false c8, rs_keep_Data, Bool.not_eq_true', Bool.not_eq_false', go_sem, eq_self, Nat.reduceEqDiff, Nat.reduceBEq, Nat.reduceAdd, Nat.reduceLeDiff, reduceIte, reduceCtorEq, tysA, tyA, Ty.enc, Ty.encs])
      | (refine Run.retP g_keep_Data (σ2 := σ) hle2 ?_; (try simp -implicitDefEqProofs only [lt_t hpl, hc', gt40', decide_eq_true c40, gt8', encs_len, decide_eq_false c8, rs_keep_Data, Bool.not_eq_true', Bool.not_eq_false', go_sem, eq_self, Nat.reduceEqDiff, Nat.reduceBEq, Nat.reduceAdd, Nat.reduceLeDiff, reduceIte, reduceCtorEq, tysA, tyA, Ty.enc, Ty.encs]))
      | (refine xo_gs rfl (fun h => ?_) (fun h => ?_) <;> first | (cases h; done) | simp -implicitDefEqProofs only [lt_t hpl, hc', gt40', decide_eq_true c40, gt8', encs_len, decide_eq_false c8, rs_keep_Data, Bool.not_eq_true', Bool.not_eq_false', go_sem, eq_self, Nat.reduceEqDiff, Nat.reduceBEq, Nat.reduceAdd, Nat.reduceLeDiff, reduceIte, reduceCtorEq, tysA, tyA, Ty.enc, Ty.encs])
      | (refine ⟨fun h => ?_, fun h => ?_⟩ <;> first | (cases h; done) | (simp -implicitDefEqProofs only [h]; done) | (try simp -implicitDefEqProofs only [h]))
      | fail))
        exact ⟨false, rfl, fun h => by cases h⟩
      (repeat' (first
      | refine Run.seq ?_
      | refine Run.skip ?_
      | refine Run.block ?_
      | refine Run.blk ?_
      | refine Run.scope ?_
      | refine Run.scp ?_
      | (refine Run.exit rfl ?_)
      | (refine Run.reg mixed ?_; simp -implicitDefEqProofs only [lt_t hpl, hc', gt40', decide_eq_true c40, gt8', encs_len, decide_eq_true c8, rs_keep_Data, Bool.not_eq_true', Bool.not_eq_false', go_sem, eq_self, Nat.reduceEqDiff, Nat.reduceBEq, Nat.reduceAdd, Nat.reduceLeDiff, reduceIte, reduceCtorEq, tysA, tyA, Ty.enc, Ty.encs])
      | (refine Run.condM ?_; simp -implicitDefEqProofs only [lt_t hpl, hc', gt40', decide_eq_true c40, gt8', encs_len, decide_eq_true c8, rs_keep_Data, Bool.not_eq_true', Bool.not_eq_false', go_sem, eq_self, Nat.reduceEqDiff, Nat.reduceBEq, Nat.reduceAdd, Nat.reduceLeDiff, reduceIte, reduceCtorEq, tysA, tyA, Ty.enc, Ty.encs])
      | (refine xo_gs rfl (fun h => ?_) (fun h => ?_) <;> first | (cases h; done) | simp -implicitDefEqProofs only [lt_t hpl, hc', gt40', decide_eq_true c40, gt8', encs_len, decide_eq_true c8, rs_keep_Data, Bool.not_eq_true', Bool.not_eq_false', go_sem, eq_self, Nat.reduceEqDiff, Nat.reduceBEq, Nat.reduceAdd, Nat.reduceLeDiff, reduceIte, reduceCtorEq, tysA, tyA, Ty.enc, Ty.encs])
      | (refine ⟨fun h => ?_, fun h => ?_⟩ <;> first | (cases h; done) | (simp -implicitDefEqProofs only [h]; done) | (try simp -implicitDefEqProofs only [h]))
      | fail))
      intro j hj
      obtain ⟨hle3, hb⟩ := alt_le (z := [.d (.int .i64 0)]) (x := ([AV.d (.int .i64 0)].length, 3)) hj
      simp only [List.length_cons, List.length_nil, Nat.zero_add] at hle3 hb
      generalize (σ2.setBlk j [.d (.int .i64 0)]).setBt j (1, 3) = σ3 at hle3 hb ⊢
      have hsj : σ.blk j = none := by
        cases h : σ.blk j with
        | none => rfl
        | some cs => have := hle2.blk j cs h; rw [hj.1] at this; cases this
      have hle4 := Heap.le_trans hle2 hle3
      simp -implicitDefEqProofs only [hb, go_sem, eq_self, Nat.reduceEqDiff, Nat.reduceBEq, Nat.reduceAdd, Nat.reduceLeDiff, reduceIte, reduceCtorEq, tysA, tyA, Ty.enc, Ty.encs]
      (repeat' (first
      | refine Run.seq ?_
      | refine Run.skip ?_
      | refine Run.block ?_
      | refine Run.blk ?_
      | refine Run.scope ?_
      | refine Run.scp ?_
      | (refine Run.exit rfl ?_)
      | (refine Run.reg mixed ?_; simp -implicitDefEqProofs only [hb, encs_len, rs_keep_Data, Bool.not_eq_true', Bool.not_eq_false', go_sem, eq_self, Nat.reduceEqDiff, Nat.reduceBEq, Nat.reduceAdd, Nat.reduceLeDiff, reduceIte, reduceCtorEq, tysA, tyA, Ty.enc, Ty.encs])
      | (refine Run.condM ?_; simp -implicitDefEqProofs only [hb, encs_len, rs_keep_Data, Bool.not_eq_true', Bool.not_eq_false', go_sem, eq_self, Nat.reduceEqDiff, Nat.reduceBEq, Nat.reduceAdd, Nat.reduceLeDiff, reduceIte, reduceCtorEq, tysA, tyA, Ty.enc, Ty.encs])
      | (refine xo_gs rfl (fun h => ?_) (fun h => ?_) <;> first | (cases h; done) | simp -implicitDefEqProofs only [hb, encs_len, rs_keep_Data, Bool.not_eq_true', Bool.not_eq_false', go_sem, eq_self, Nat.reduceEqDiff, Nat.reduceBEq, Nat.reduceAdd, Nat.reduceLeDiff, reduceIte, reduceCtorEq, tysA, tyA, Ty.enc, Ty.encs])
      | (refine ⟨fun h => ?_, fun h => ?_⟩ <;> first | (cases h; done) | (simp -implicitDefEqProofs only [h]; done) | (try simp -implicitDefEqProofs only [h]))
      | fail))
      refine Run.loopA ?_
      refine Run.loopI ((fun (a7 : AV) (a13 : AV) (a14 : AV) (a15 : AV) (a30 : AV) (a31 : AV) (a32 : AV) (a47 : AV) (a48 : AV) => fun (y : Nat × Nat) => put 7 a7 (put 13 a13 (put 14 a14 (put 15 a15 (put 30 a30 (put 31 a31 (put 32 a32 (put 47 a47 (put 48 a48 (put 49 (.d (.int .i64 y.1)) U)))))))))) _ _ _ _ _ _ _ _ _) (fun _ => E) (fun y => σ3.setBlk j [.d (.int .i64 (y.2 : Int))]) (fun y => y.1 ≤ c.args.length ∧ y.2 ≤ 20) (fun y => c.args.length - y.1) ?_ (0, 20) ⟨by simp, by simp⟩
      rintro ⟨a, q⟩ ⟨ha, hq⟩ ih3
      simp only at ha hq
      by_cases hal : a < c.args.length
      · obtain ⟨t', ht⟩ := ex_at hal
        obtain ⟨kd', nm', al⟩ := t'
        have he := encs_at ht
        have hwa := wrap_succ (show a + 1 ≤ 9000000000000000000 by omega)
        have hcall := keep_typ_ok j q (by omega) (.mk kd' nm' al) (σ3.setBlk j [.d (.int .i64 (q : Int))]) (by simp only [setBlk_get, if_true])
        by_cases hfit : (Ty.mk kd' nm' al).size ≤ q
        · have hlo : leftOf q (Ty.mk kd' nm' al).size = ((q - (Ty.mk kd' nm' al).size : Nat) : Int) := if_pos hfit
          rw [decide_eq_true hfit, hlo] at hcall
          (repeat' (first
      | refine Run.seq ?_
      | refine Run.skip ?_
      | refine Run.block ?_
      | refine Run.blk ?_
      | refine Run.scope ?_
      | refine Run.scp ?_
      | (refine Run.exit rfl ?_)
      | (refine Run.reg mixed ?_; simp -implicitDefEqProofs only [lt_t hal, he, hwa, rs_keep_Data, Bool.not_eq_true', Bool.not_eq_false', go_sem, eq_self, Nat.reduceEqDiff, Nat.reduceBEq, Nat.reduceAdd, Nat.reduceLeDiff, reduceIte, reduceCtorEq, tysA, tyA, Ty.enc, Ty.encs])
      | (refine Run.condM ?_; simp -implicitDefEqProofs only [lt_t hal, he, hwa, rs_keep_Data, Bool.not_eq_true', Bool.not_eq_false', go_sem, eq_self, Nat.reduceEqDiff, Nat.reduceBEq, Nat.reduceAdd, Nat.reduceLeDiff, reduceIte, reduceCtorEq, tysA, tyA, Ty.enc, Ty.encs])
      | (refine XCall.mk rfl hcall ?_; rintro _ _ ⟨rfl, rfl⟩; (try simp -implicitDefEqProofs only [lt_t hal, he, hwa, rs_keep_Data, Bool.not_eq_true', Bool.not_eq_false', go_sem, eq_self, Nat.reduceEqDiff, Nat.reduceBEq, Nat.reduceAdd, Nat.reduceLeDiff, reduceIte, reduceCtorEq, tysA, tyA, Ty.enc, Ty.encs]))
      | (refine xo_gs rfl (fun h => ?_) (fun h => ?_) <;> first | (cases h; done) | simp -implicitDefEqProofs only [lt_t hal, he, hwa, rs_keep_Data, Bool.not_eq_true', Bool.not_eq_false', go_sem, eq_self, Nat.reduceEqDiff, Nat.reduceBEq, Nat.reduceAdd, Nat.reduceLeDiff, reduceIte, reduceCtorEq, tysA, tyA, Ty.enc, Ty.encs])
      | (refine ⟨fun h => ?_, fun h => ?_⟩ <;> first | (cases h; done) | (simp -implicitDefEqProofs only [h]; done) | (try simp -implicitDefEqProofs only [h]))
      | fail))
          exact ih3 (a + 1, q - (Ty.mk kd' nm' al).size) ⟨by simp only; omega, by simp only; omega⟩ (by simp only; omega)
        · rw [decide_eq_false hfit] at hcall
          (repeat' (first
      | refine Run.seq ?_
      | refine Run.skip ?_
      | refine Run.block ?_
      | refine Run.blk ?_
      | refine Run.scope ?_
      | refine Run.scp ?_
      | (refine Run.exit rfl ?_)
      | (refine Run.reg mixed ?_; simp -implicitDefEqProofs only [lt_t hal, he, hwa, rs_keep_Data, Bool.not_eq_true', Bool.not_eq_false', go_sem, eq_self, Nat.reduceEqDiff, Nat.reduceBEq, Nat.reduceAdd, Nat.reduceLeDiff, reduceIte, reduceCtorEq, tysA, tyA, Ty.enc, Ty.encs])
      | (refine Run.condM ?_; simp -implicitDefEqProofs only [lt_t hal, he, hwa, rs_keep_Data, Bool.not_eq_true', Bool.not_eq_false', go_sem, eq_self, Nat.reduceEqDiff, Nat.reduceBEq, Nat.reduceAdd, Nat.reduceLeDiff, reduceIte, reduceCtorEq, tysA, tyA, Ty.enc, Ty.encs])
      | (refine XCall.mk rfl hcall ?_; rintro _ _ ⟨rfl, rfl⟩; (try simp -implicitDefEqProofs only [lt_t hal, he, hwa, rs_keep_Data, Bool.not_eq_true', Bool.not_eq_false', go_sem, eq_self, Nat.reduceEqDiff, Nat.reduceBEq, Nat.reduceAdd, Nat.reduceLeDiff, reduceIte, reduceCtorEq, tysA, tyA, Ty.enc, Ty.encs]))
      | (refine Run.retP g_keep_Data (σ2 := σ) (le_set hle4 hsj) ?_; (try simp -implicitDefEqProofs only [lt_t hal, he, hwa, rs_keep_Data, Bool.not_eq_true', Bool.not_eq_false', go_sem, eq_self, Nat.reduceEqDiff, Nat.reduceBEq, Nat.reduceAdd, Nat.reduceLeDiff, reduceIte, reduceCtorEq, tysA, tyA, Ty.enc, Ty.encs]))
      | (refine xo_gs rfl (fun h => ?_) (fun h => ?_) <;> first | (cases h; done) | simp -implicitDefEqProofs only [lt_t hal, he, hwa, rs_keep_Data, Bool.not_eq_true', Bool.not_eq_false', go_sem, eq_self, Nat.reduceEqDiff, Nat.reduceBEq, Nat.reduceAdd, Nat.reduceLeDiff, reduceIte, reduceCtorEq, tysA, tyA, Ty.enc, Ty.encs])
      | (refine ⟨fun h => ?_, fun h => ?_⟩ <;> first | (cases h; done) | (simp -implicitDefEqProofs only [h]; done) | (try simp -implicitDefEqProofs only [h]))
      | fail))
          exact ⟨false, rfl, fun h => by cases h⟩
      · (repeat' (first
      | refine Run.seq ?_
      | refine Run.skip ?_
      | refine Run.block ?_
      | refine Run.blk ?_
      | refine Run.scope ?_
      | refine Run.scp ?_
      | (refine Run.exit rfl ?_)
      | (refine Run.reg mixed ?_; simp -implicitDefEqProofs only [lt_f hal, hwp, rs_keep_Data, Bool.not_eq_true', Bool.not_eq_false', go_sem, eq_self, Nat.reduceEqDiff, Nat.reduceBEq, Nat.reduceAdd, Nat.reduceLeDiff, reduceIte, reduceCtorEq, tysA, tyA, Ty.enc, Ty.encs])
      | (refine Run.condM ?_; simp -implicitDefEqProofs only [lt_f hal, hwp, rs_keep_Data, Bool.not_eq_true', Bool.not_eq_false', go_sem, eq_self, Nat.reduceEqDiff, Nat.reduceBEq, Nat.reduceAdd, Nat.reduceLeDiff, reduceIte, reduceCtorEq, tysA, tyA, Ty.enc, Ty.encs])
      | (refine xo_gs rfl (fun h => ?_) (fun h => ?_) <;> first | (cases h; done) | simp -implicitDefEqProofs only [lt_f hal, hwp, rs_keep_Data, Bool.not_eq_true', Bool.not_eq_false', go_sem, eq_self, Nat.reduceEqDiff, Nat.reduceBEq, Nat.reduceAdd, Nat.reduceLeDiff, reduceIte, reduceCtorEq, tysA, tyA, Ty.enc, Ty.encs])
      | (refine ⟨fun h => ?_, fun h => ?_⟩ <;> first | (cases h; done) | (simp -implicitDefEqProofs only [h]; done) | (try simp -implicitDefEqProofs only [h]))
      | fail))
        exact ih2 (p + 1, _) ⟨by simp only; omega, le_set hle4 hsj⟩ (by simp only; omega)
    · (repeat' (first
      | refine Run.seq ?_
      | refine Run.skip ?_
      | refine Run.block ?_
      | refine Run.blk ?_
      | refine Run.scope ?_
      | refine Run.scp ?_
      | (refine Run.exit rfl ?_)
      | (refine Run.reg mixed ?_; simp -implicitDefEqProofs only [lt_f hpl, hw1, rs_keep_Data, Bool.not_eq_true', Bool.not_eq_false', go_sem, eq_self, Nat.reduceEqDiff, Nat.reduceBEq, Nat.reduceAdd, Nat.reduceLeDiff, reduceIte, reduceCtorEq, tysA, tyA, Ty.enc, Ty.encs])
      | (refine Run.condM ?_; simp -implicitDefEqProofs only [lt_f hpl, hw1, rs_keep_Data, Bool.not_eq_true', Bool.not_eq_false', go_sem, eq_self, Nat.reduceEqDiff, Nat.reduceBEq, Nat.reduceAdd, Nat.reduceLeDiff, reduceIte, reduceCtorEq, tysA, tyA, Ty.enc, Ty.encs])
      | (refine xo_gs rfl (fun h => ?_) (fun h => ?_) <;> first | (cases h; done) | simp -implicitDefEqProofs only [lt_f hpl, hw1, rs_keep_Data, Bool.not_eq_true', Bool.not_eq_false', go_sem, eq_self, Nat.reduceEqDiff, Nat.reduceBEq, Nat.reduceAdd, Nat.reduceLeDiff, reduceIte, reduceCtorEq, tysA, tyA, Ty.enc, Ty.encs])
      | (refine ⟨fun h => ?_, fun h => ?_⟩ <;> first | (cases h; done) | (simp -implicitDefEqProofs only [h]; done) | (try simp -implicitDefEqProofs only [h]))
      | fail))
      refine ih (i + 1, σ2) ⟨by simp only; omega, hle2, fun d' hd2 => ?_⟩ (by simp only; omega)
      rw [take_snoc hd] at hd2
      rcases List.mem_append.1 hd2 with h | h
      · exact hok d' h
      · simp only [List.mem_singleton] at h; subst h; exact h40
  · (repeat' (first
      | refine Run.seq ?_
      | refine Run.skip ?_
      | refine Run.block ?_
      | refine Run.blk ?_
      | refine Run.scope ?_
      | refine Run.scp ?_
      | (refine Run.exit rfl ?_)
      | (refine Run.reg mixed ?_; simp -implicitDefEqProofs only [lt_f hlt, rs_keep_Data, Bool.not_eq_true', Bool.not_eq_false', go_sem, eq_self, Nat.reduceEqDiff, Nat.reduceBEq, Nat.reduceAdd, Nat.reduceLeDiff, reduceIte, reduceCtorEq, tysA, tyA, Ty.enc, Ty.encs])
      | (refine Run.condM ?_; simp -implicitDefEqProofs only [lt_f hlt, rs_keep_Data, Bool.not_eq_true', Bool.not_eq_false', go_sem, eq_self, Nat.reduceEqDiff, Nat.reduceBEq, Nat.reduceAdd, Nat.reduceLeDiff, reduceIte, reduceCtorEq, tysA, tyA, Ty.enc, Ty.encs])
      | (refine Run.retP g_keep_Data (σ2 := σ) hle ?_; (try simp -implicitDefEqProofs only [lt_f hlt, rs_keep_Data, Bool.not_eq_true', Bool.not_eq_false', go_sem, eq_self, Nat.reduceEqDiff, Nat.reduceBEq, Nat.reduceAdd, Nat.reduceLeDiff, reduceIte, reduceCtorEq, tysA, tyA, Ty.enc, Ty.encs]))
      | (refine xo_gs rfl (fun h => ?_) (fun h => ?_) <;> first | (cases h; done) | simp -implicitDefEqProofs only [lt_f hlt, rs_keep_Data, Bool.not_eq_true', Bool.not_eq_false', go_sem, eq_self, Nat.reduceEqDiff, Nat.reduceBEq, Nat.reduceAdd, Nat.reduceLeDiff, reduceIte, reduceCtorEq, tysA, tyA, Ty.enc, Ty.encs])
      | (refine ⟨fun h => ?_, fun h => ?_⟩ <;> first | (cases h; done) | (simp -implicitDefEqProofs only [h]; done) | (try simp -implicitDefEqProofs only [h]))
      | fail))
    rw [List.take_of_length_le (by omega)] at hok
    exact ⟨true, rfl, fun _ => ⟨h14, hok⟩⟩

/-! ### Validity -/

def shapeOk (data : List Dat) (vars k n : Int) (len : Nat) : Bool :=
  if k = 1 ∨ k = 2 ∨ k = 3 then (n == 0) && (len == 0)
  else if k = 4 then decide (0 ≤ n) && decide (n < vars) && (len == 0)
  else if k = 5 then decide (0 ≤ n) && (match data[n.toNat]? with | some d => ((len : Int) == d.vars) | none => false)
  else if k = 6 then (n == 0) && decide (2 ≤ len) && decide (len ≤ 6)
  else if k = 7 ∨ k = 8 then (n == 0) && (len == 1)
  else if k = 9 then (n == 0) && decide (1 ≤ len) && decide (len ≤ 7)
  else false
mutual
def validT (data : List Dat) (vars : Int) : Ty → Bool
  | .mk k n l => shapeOk data vars k n l.length && validTs data vars l
def validTs (data : List Dat) (vars : Int) : List Ty → Bool
  | [] => true
  | t :: l => validT data vars t && validTs data vars l
end
theorem validTs_snoc (data : List Dat) (vars : Int) (t : Ty) : ∀ l : List Ty, validTs data vars (l ++ [t]) = (validTs data vars l && validT data vars t)
  | [] => by simp [validTs]
  | u :: l => by simp only [List.cons_append, validTs, validTs_snoc data vars t l, Bool.and_assoc]
theorem validTs_app (data : List Dat) (vars : Int) : ∀ l m : List Ty, validTs data vars (l ++ m) = (validTs data vars l && validTs data vars m)
  | [], m => by simp [validTs]
  | u :: l, m => by simp only [List.cons_append, validTs, validTs_app data vars l m, Bool.and_assoc]
theorem validTs_get {data : List Dat} {vars : Int} {l : List Ty} {i : Nat} {t : Ty} (h : l[i]? = some t) (hv : validT data vars t = false) : validTs data vars l = false := by
  rw [← List.take_append_drop i l, validTs_app, drop_at h, validTs, hv]; simp
theorem validTs_mem {data : List Dat} {vars : Int} {l : List Ty} {t : Ty} (hl : validTs data vars l = true) (ht : t ∈ l) : validT data vars t = true := by
  obtain ⟨i, hi⟩ := List.mem_iff_getElem?.1 ht
  cases h : validT data vars t with
  | true => rfl
  | false => rw [validTs_get hi h] at hl; cases hl

/-- The validator's block. -/
def vb (data : List Dat) (vars left : Int) : List AV := [dsA data, .d (.int .i64 vars), .d (.int .i64 left)]
/-- What a look at a type leaves. -/
def VQ (data : List Dat) (vars : Int) (i L : Nat) (t : Ty) (σ : Heap) (v : AV) (σ' : Heap) : Prop :=
  ∃ b L', v = .d (.bool b) ∧ σ' = σ.setBlk i (vb data vars L') ∧ b = (decide (t.size ≤ L) && validT data vars t) ∧ (b = true → L' = ((L - t.size : Nat) : Int))
def VOK (data : List Dat) (vars : Int) (i L : Nat) : Prop := ∀ (t : Ty) (σ : Heap), σ.blk i = some (vb data vars L) → ACalls Tryd.prog 44 [.gp i 0, tyA t] σ (VQ data vars i L t σ)

theorem closure_ok {data : List Dat} {vars : Int} {i j L : Nat} (hV : VOK data vars i L) (t : Ty) (σ : Heap) (hi : σ.blk i = some (vb data vars L)) (hj : σ.blk j = some [.gp i 0]) (hij : j ≠ i) :
    ACalls Tryd.prog 79 [tyA t, .gp j 0] σ (fun v σ' => ∃ b L', v = .d (.bool (!b)) ∧ σ' = σ.setBlk i (vb data vars L') ∧ b = (decide (t.size ≤ L) && validT data vars t) ∧ (b = true → L' = ((L - t.size : Nat) : Int))) := by
  obtain ⟨kd, nm, l⟩ := t
  refine i_typing_validator_valid_1 (by simp) ?_
  rw [argF_2]
  (repeat' (first
      | refine Run.seq ?_
      | refine Run.skip ?_
      | refine Run.block ?_
      | refine Run.blk ?_
      | refine Run.scope ?_
      | refine Run.scp ?_
      | (refine Run.exit rfl ?_)
      | (refine Run.reg mixed ?_; simp -implicitDefEqProofs only [hj, rs_typing_validator_valid_1, Bool.not_eq_true', Bool.not_eq_false', go_sem, eq_self, Nat.reduceEqDiff, Nat.reduceBEq, Nat.reduceAdd, Nat.reduceLeDiff, reduceIte, reduceCtorEq, tysA, tyA, Ty.enc, Ty.encs])
      | (refine Run.condM ?_; simp -implicitDefEqProofs only [hj, rs_typing_validator_valid_1, Bool.not_eq_true', Bool.not_eq_false', go_sem, eq_self, Nat.reduceEqDiff, Nat.reduceBEq, Nat.reduceAdd, Nat.reduceLeDiff, reduceIte, reduceCtorEq, tysA, tyA, Ty.enc, Ty.encs])
      | (refine XCall.mk rfl (hV (.mk kd nm l) σ hi) ?_; rintro _ _ ⟨b, L', rfl, rfl, hb, hL⟩; (try simp -implicitDefEqProofs only [hj, rs_typing_validator_valid_1, Bool.not_eq_true', Bool.not_eq_false', go_sem, eq_self, Nat.reduceEqDiff, Nat.reduceBEq, Nat.reduceAdd, Nat.reduceLeDiff, reduceIte, reduceCtorEq, tysA, tyA, Ty.enc, Ty.encs]))
      | (refine Run.retR g_typing_validator_valid_1 (Heap.le_refl _) ?_; simp -implicitDefEqProofs only [rs_typing_validator_valid_1, hj, go_sem, eq_self, Nat.reduceEqDiff, Nat.reduceBEq, Nat.reduceAdd, Nat.reduceLeDiff, reduceIte, reduceCtorEq, tysA, tyA, Ty.enc, Ty.encs])
      | (refine xo_gs rfl (fun h => ?_) (fun h => ?_) <;> first | (cases h; done) | simp -implicitDefEqProofs only [hj, rs_typing_validator_valid_1, Bool.not_eq_true', Bool.not_eq_false', go_sem, eq_self, Nat.reduceEqDiff, Nat.reduceBEq, Nat.reduceAdd, Nat.reduceLeDiff, reduceIte, reduceCtorEq, tysA, tyA, Ty.enc, Ty.encs])
      | (refine ⟨fun h => ?_, fun h => ?_⟩ <;> first | (cases h; done) | (simp -implicitDefEqProofs only [h]; done) | (try simp -implicitDefEqProofs only [h]))
      | fail))
  exact ⟨b, L', rfl, rfl, hb, hL⟩

set_option maxHeartbeats 1000000 in
theorem IndexT_ok {data : List Dat} {vars : Int} {i j L : Nat} (hV : ∀ m, m ≤ L → VOK data vars i m) (l : List Ty) (σ : Heap) (hL : L ≤ 1000000) (hi : σ.blk i = some (vb data vars L)) (hj : σ.blk j = some [.gp i 0]) (hij : j ≠ i) :
    ACalls Tryd.prog 102 [tysA l, .fn 79 [] [.gp j 0]] σ (fun v σ' => ∃ r L', v = .d (.int .i64 r) ∧ σ' = σ.setBlk i (vb data vars L') ∧ decide (0 ≤ r) = !(decide (Ty.sizes l ≤ L) && validTs data vars l) ∧ (r < 0 → L' = ((L - Ty.sizes l : Nat) : Int))) := by
  refine i_slices_IndexFunc_api_Type (by simp) ?_
  rw [argF_2, tysA]
  (repeat' (first
      | refine Run.seq ?_
      | refine Run.skip ?_
      | refine Run.block ?_
      | refine Run.blk ?_
      | refine Run.scope ?_
      | refine Run.scp ?_
      | (refine Run.exit rfl ?_)
      | (refine Run.reg mixed ?_; simp -implicitDefEqProofs only [encs_len, rs_slices_IndexFunc_api_Type, Bool.not_eq_true', Bool.not_eq_false', go_sem, eq_self, Nat.reduceEqDiff, Nat.reduceBEq, Nat.reduceAdd, Nat.reduceLeDiff, reduceIte, reduceCtorEq, tysA, tyA, Ty.enc, Ty.encs])
      | (refine Run.condM ?_; simp -implicitDefEqProofs only [encs_len, rs_slices_IndexFunc_api_Type, Bool.not_eq_true', Bool.not_eq_false', go_sem, eq_self, Nat.reduceEqDiff, Nat.reduceBEq, Nat.reduceAdd, Nat.reduceLeDiff, reduceIte, reduceCtorEq, tysA, tyA, Ty.enc, Ty.encs])
      | (refine xo_gs rfl (fun h => ?_) (fun h => ?_) <;> first | (cases h; done) | simp -implicitDefEqProofs only [encs_len, rs_slices_IndexFunc_api_Type, Bool.not_eq_true', Bool.not_eq_false', go_sem, eq_self, Nat.reduceEqDiff, Nat.reduceBEq, Nat.reduceAdd, Nat.reduceLeDiff, reduceIte, reduceCtorEq, tysA, tyA, Ty.enc, Ty.encs])
      | (refine ⟨fun h => ?_, fun h => ?_⟩ <;> first | (cases h; done) | (simp -implicitDefEqProofs only [h]; done) | (try simp -implicitDefEqProofs only [h]))
      | fail))
  refine Run.loopA ?_
  refine Run.heapEq' (setBlk_same hi) ?_
  refine Run.loopI ((fun (a0 : AV) (a1 : AV) (a7 : AV) => fun (y : Nat × Nat) => put 0 a0 (put 1 a1 (put 7 a7 (put 8 (.d (.int .i64 y.1)) U)))) _ _ _) (fun _ => E) (fun y => σ.setBlk i (vb data vars (y.2 : Int))) (fun y => y.1 ≤ l.length ∧ validTs data vars (l.take y.1) = true ∧ y.2 + Ty.sizes (l.take y.1) = L) (fun y => l.length - y.1) ?_ (0, L) ⟨by simp, by simp [validTs], by simp [Ty.sizes]⟩
  rintro ⟨k, q⟩ ⟨hk, hok, hq⟩ ih
  simp only at hk hok hq
  have hkL : k ≤ L := by
    have := ty_len (l.take k)
    simp at this; omega
  by_cases hlt : k < l.length
  · obtain ⟨t', ht⟩ := ex_at hlt
    have hs1 : Ty.sizes (l.take (k + 1)) = Ty.sizes (l.take k) + t'.size := by rw [take_snoc ht, sizes_snoc]
    have hs2 := sizes_take l (k + 1)
    have hv1 : validTs data vars (l.take (k + 1)) = (validTs data vars (l.take k) && validT data vars t') := by rw [take_snoc ht, validTs_snoc]
    have hbad := validTs_get (data := data) (vars := vars) ht
    have hcall := closure_ok (hV q (by omega)) t' (σ.setBlk i (vb data vars (q : Int))) (by simp only [setBlk_get, if_true]) (by simp only [setBlk_get, if_neg hij, hj]) hij
    obtain ⟨kd', nm', al⟩ := t'
    have he := encs_at ht
    have hw1 := wrap_succ (show k + 1 ≤ 9000000000000000000 by omega)
    cases hB : (decide ((Ty.mk kd' nm' al).size ≤ q) && validT data vars (.mk kd' nm' al)) with
    | true =>
      have hc2 := hcall.mono (Q' := fun v σ' => v = .d (.bool false) ∧ σ' = σ.setBlk i (vb data vars ((q - (Ty.mk kd' nm' al).size : Nat) : Int))) (by
        rintro v σ' ⟨b, L', rfl, rfl, hb, h⟩
        rw [hB] at hb; subst hb
        rw [h rfl, setBlk_set]; exact ⟨rfl, rfl⟩)
      simp only [Bool.and_eq_true, decide_eq_true_eq] at hB
      (repeat' (first
      | refine Run.seq ?_
      | refine Run.skip ?_
      | refine Run.block ?_
      | refine Run.blk ?_
      | refine Run.scope ?_
      | refine Run.scp ?_
      | (refine Run.exit rfl ?_)
      | (refine Run.reg mixed ?_; simp -implicitDefEqProofs only [lt_t hlt, he, hw1, rs_slices_IndexFunc_api_Type, Bool.not_eq_true', Bool.not_eq_false', go_sem, eq_self, Nat.reduceEqDiff, Nat.reduceBEq, Nat.reduceAdd, Nat.reduceLeDiff, reduceIte, reduceCtorEq, tysA, tyA, Ty.enc, Ty.encs])
      | (refine Run.condM ?_; simp -implicitDefEqProofs only [lt_t hlt, he, hw1, rs_slices_IndexFunc_api_Type, Bool.not_eq_true', Bool.not_eq_false', go_sem, eq_self, Nat.reduceEqDiff, Nat.reduceBEq, Nat.reduceAdd, Nat.reduceLeDiff, reduceIte, reduceCtorEq, tysA, tyA, Ty.enc, Ty.encs])
      | (refine ⟨_, [], [_], rfl, by kernel_rfl, ?_⟩; (try simp -implicitDefEqProofs only [lt_t hlt, he, hw1, rs_slices_IndexFunc_api_Type, Bool.not_eq_true', Bool.not_eq_false', go_sem, eq_self, Nat.reduceEqDiff, Nat.reduceBEq, Nat.reduceAdd, Nat.reduceLeDiff, reduceIte, reduceCtorEq, tysA, tyA, Ty.enc, Ty.encs]))
      | (refine XCall.mk rfl hc2 ?_; rintro _ _ ⟨rfl, rfl⟩; (try simp -implicitDefEqProofs only [lt_t hlt, he, hw1, rs_slices_IndexFunc_api_Type, Bool.not_eq_true', Bool.not_eq_false', go_sem, eq_self, Nat.reduceEqDiff, Nat.reduceBEq, Nat.reduceAdd, Nat.reduceLeDiff, reduceIte, reduceCtorEq, tysA, tyA, Ty.enc, Ty.encs]))
      | (refine xo_gs rfl (fun h => ?_) (fun h => ?_) <;> first | (cases h; done) | simp -implicitDefEqProofs only [lt_t hlt, he, hw1, rs_slices_IndexFunc_api_Type, Bool.not_eq_true', Bool.not_eq_false', go_sem, eq_self, Nat.reduceEqDiff, Nat.reduceBEq, Nat.reduceAdd, Nat.reduceLeDiff, reduceIte, reduceCtorEq, tysA, tyA, Ty.enc, Ty.encs])
      | (refine ⟨fun h => ?_, fun h => ?_⟩ <;> first | (cases h; done) | (simp -implicitDefEqProofs only [h]; done) | (try simp -implicitDefEqProofs only [h]))
      | fail))
      exact ih (k + 1, q - (Ty.mk kd' nm' al).size) ⟨by simp only; omega, by simp only; rw [hv1, hok, hB.2]; rfl, by simp only; omega⟩ (by simp only; omega)
    | false =>
      have hc2 := hcall.mono (Q' := fun v σ' => v = .d (.bool true) ∧ ∃ L', σ' = σ.setBlk i (vb data vars L')) (by
        rintro v σ' ⟨b, L', rfl, rfl, hb, h⟩
        rw [hB] at hb; subst hb
        exact ⟨rfl, L', by rw [setBlk_set]⟩)
      (repeat' (first
      | refine Run.seq ?_
      | refine Run.skip ?_
      | refine Run.block ?_
      | refine Run.blk ?_
      | refine Run.scope ?_
      | refine Run.scp ?_
      | (refine Run.exit rfl ?_)
      | (refine Run.reg mixed ?_; simp -implicitDefEqProofs only [lt_t hlt, he, hw1, rs_slices_IndexFunc_api_Type, Bool.not_eq_true', Bool.not_eq_false', go_sem, eq_self, Nat.reduceEqDiff, Nat.reduceBEq, Nat.reduceAdd, Nat.reduceLeDiff, reduceIte, reduceCtorEq, tysA, tyA, Ty.enc, Ty.encs])
      | (refine Run.condM ?_; simp -implicitDefEqProofs only [lt_t hlt, he, hw1, rs_slices_IndexFunc_api_Type, Bool.not_eq_true', Bool.not_eq_false', go_sem, eq_self, Nat.reduceEqDiff, Nat.reduceBEq, Nat.reduceAdd, Nat.reduceLeDiff, reduceIte, reduceCtorEq, tysA, tyA, Ty.enc, Ty.encs])
      | (refine ⟨_, [], [_], rfl, by kernel_rfl, ?_⟩; (try simp -implicitDefEqProofs only [lt_t hlt, he, hw1, rs_slices_IndexFunc_api_Type, Bool.not_eq_true', Bool.not_eq_false', go_sem, eq_self, Nat.reduceEqDiff, Nat.reduceBEq, Nat.reduceAdd, Nat.reduceLeDiff, reduceIte, reduceCtorEq, tysA, tyA, Ty.enc, Ty.encs]))
      | (refine XCall.mk rfl hc2 ?_; rintro _ _ ⟨rfl, L', rfl⟩; (try simp -implicitDefEqProofs only [lt_t hlt, he, hw1, rs_slices_IndexFunc_api_Type, Bool.not_eq_true', Bool.not_eq_false', go_sem, eq_self, Nat.reduceEqDiff, Nat.reduceBEq, Nat.reduceAdd, Nat.reduceLeDiff, reduceIte, reduceCtorEq, tysA, tyA, Ty.enc, Ty.encs]))
      | (refine Run.retR g_slices_IndexFunc_api_Type (Heap.le_refl _) ?_; simp -implicitDefEqProofs only [rs_slices_IndexFunc_api_Type, lt_t hlt, he, hw1, go_sem, eq_self, Nat.reduceEqDiff, Nat.reduceBEq, Nat.reduceAdd, Nat.reduceLeDiff, reduceIte, reduceCtorEq, tysA, tyA, Ty.enc, Ty.encs])
      | (refine xo_gs rfl (fun h => ?_) (fun h => ?_) <;> first | (cases h; done) | simp -implicitDefEqProofs only [lt_t hlt, he, hw1, rs_slices_IndexFunc_api_Type, Bool.not_eq_true', Bool.not_eq_false', go_sem, eq_self, Nat.reduceEqDiff, Nat.reduceBEq, Nat.reduceAdd, Nat.reduceLeDiff, reduceIte, reduceCtorEq, tysA, tyA, Ty.enc, Ty.encs])
      | (refine ⟨fun h => ?_, fun h => ?_⟩ <;> first | (cases h; done) | (simp -implicitDefEqProofs only [h]; done) | (try simp -implicitDefEqProofs only [h]))
      | fail))
      refine ⟨(k : Int), L', rfl, rfl, ?_, fun h => by omega⟩
      have hd0 : decide ((0 : Int) ≤ (k : Int)) = true := by simp
      rw [hd0]
      have : (decide (Ty.sizes l ≤ L) && validTs data vars l) = false := by
        rcases (Bool.and_eq_false_iff.1 hB) with h | h
        · have : ¬ Ty.sizes l ≤ L := by simp only [decide_eq_false_iff_not] at h; omega
          simp [this]
        · rw [hbad h]; simp
      rw [this]; rfl
  · (repeat' (first
      | refine Run.seq ?_
      | refine Run.skip ?_
      | refine Run.block ?_
      | refine Run.blk ?_
      | refine Run.scope ?_
      | refine Run.scp ?_
      | (refine Run.exit rfl ?_)
      | (refine Run.reg mixed ?_; simp -implicitDefEqProofs only [lt_f hlt, rs_slices_IndexFunc_api_Type, Bool.not_eq_true', Bool.not_eq_false', go_sem, eq_self, Nat.reduceEqDiff, Nat.reduceBEq, Nat.reduceAdd, Nat.reduceLeDiff, reduceIte, reduceCtorEq, tysA, tyA, Ty.enc, Ty.encs])
      | (refine Run.condM ?_; simp -implicitDefEqProofs only [lt_f hlt, rs_slices_IndexFunc_api_Type, Bool.not_eq_true', Bool.not_eq_false', go_sem, eq_self, Nat.reduceEqDiff, Nat.reduceBEq, Nat.reduceAdd, Nat.reduceLeDiff, reduceIte, reduceCtorEq, tysA, tyA, Ty.enc, Ty.encs])
      | (refine Run.retR g_slices_IndexFunc_api_Type (Heap.le_refl _) ?_; simp -implicitDefEqProofs only [rs_slices_IndexFunc_api_Type, lt_f hlt, go_sem, eq_self, Nat.reduceEqDiff, Nat.reduceBEq, Nat.reduceAdd, Nat.reduceLeDiff, reduceIte, reduceCtorEq, tysA, tyA, Ty.enc, Ty.encs])
      | (refine xo_gs rfl (fun h => ?_) (fun h => ?_) <;> first | (cases h; done) | simp -implicitDefEqProofs only [lt_f hlt, rs_slices_IndexFunc_api_Type, Bool.not_eq_true', Bool.not_eq_false', go_sem, eq_self, Nat.reduceEqDiff, Nat.reduceBEq, Nat.reduceAdd, Nat.reduceLeDiff, reduceIte, reduceCtorEq, tysA, tyA, Ty.enc, Ty.encs])
      | (refine ⟨fun h => ?_, fun h => ?_⟩ <;> first | (cases h; done) | (simp -implicitDefEqProofs only [h]; done) | (try simp -implicitDefEqProofs only [h]))
      | fail))
    rw [List.take_of_length_le (by omega)] at hok hq
    refine ⟨-1, _, rfl, rfl, ?_, fun _ => ?_⟩
    · have : Ty.sizes l ≤ L := by omega
      simp [this, hok]
    · congr 1; omega
end Go.Ab

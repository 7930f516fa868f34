/- Valid forms. Conditions: none. -/
import Derived.Test.YtdbpmhfepfpldaaDoorXFa
set_option linter.unusedSimpArgs false
set_option linter.unusedVariables false
namespace Go.Ab
open Go.Proofs

def pvOk (p : Option Int) (v : Int) : Bool := match p with | none => true | some q => decide (q < v)
def okTs : Option Int → List (Int × Int) → Bool
  | _, [] => true
  | p, x :: l => vaB x.1 && !(x.2 == 0) && smB x.2 && pvOk p x.1 && okTs (some x.1) l
def validP (l : Ln) : Bool := smB l.c && decide (l.ts.length ≤ 16) && okTs none l.ts
def pvAt (ts : List (Int × Int)) : Nat → Option Int
  | 0 => none
  | j + 1 => (ts[j]?).map (·.1)

theorem tm_at {l : List (Int × Int)} {i : Nat} {x : Int × Int} (h : l[i]? = some x) : (l.map tmR)[i]? = some [.int .i64 x.1, .int .i64 x.2] := by
  rw [List.getElem?_map, h]; rfl
theorem gt16 (n : Nat) : decide ((16 : Int) < (n : Int)) = !decide (n ≤ 16) := by
  rw [Bool.eq_iff_iff]; simp; omega

theorem linear_Valid_ok (l : Ln) (σ : Heap) : ACalls Tryd.prog 35 [linA l] σ (fun v σ' => v = .d (.bool (validP l)) ∧ σ' = σ) := by
  obtain ⟨c, ts⟩ := l
  refine i_linear_Valid (by simp) ?_
  rw [argF_1, linA]
  cases hc : smB c with
  | false =>
    (repeat' (first
      | refine Run.seq ?_
      | refine Run.skip ?_
      | refine Run.block ?_
      | refine Run.blk ?_
      | refine Run.scope ?_
      | refine Run.scp ?_
      | (refine Run.exit rfl ?_)
      | (refine Run.reg mixed ?_; simp -implicitDefEqProofs only [hc, rs_linear_Valid, Bool.not_eq_true', Bool.not_eq_false', go_sem, eq_self, Nat.reduceEqDiff, Nat.reduceBEq, Nat.reduceAdd, Nat.reduceLeDiff, reduceIte, reduceCtorEq, tysA, tyA, Ty.enc, Ty.encs])
      | (refine Run.condM ?_; simp -implicitDefEqProofs only [hc, rs_linear_Valid, Bool.not_eq_true', Bool.not_eq_false', go_sem, eq_self, Nat.reduceEqDiff, Nat.reduceBEq, Nat.reduceAdd, Nat.reduceLeDiff, reduceIte, reduceCtorEq, tysA, tyA, Ty.enc, Ty.encs])
      | (refine Run.retP g_linear_Valid (Heap.le_refl _) ?_; simp -implicitDefEqProofs only [rs_linear_Valid, hc, go_sem, eq_self, Nat.reduceEqDiff, Nat.reduceBEq, Nat.reduceAdd, Nat.reduceLeDiff, reduceIte, reduceCtorEq, tysA, tyA, Ty.enc, Ty.encs])
      | (refine XCall.det (linear_small_ok _ _) ?_; simp -implicitDefEqProofs only [hc, rs_linear_Valid, Bool.not_eq_true', Bool.not_eq_false', go_sem, eq_self, Nat.reduceEqDiff, Nat.reduceBEq, Nat.reduceAdd, Nat.reduceLeDiff, reduceIte, reduceCtorEq, tysA, tyA, Ty.enc, Ty.encs])
      | (refine xo_gs rfl (fun h => ?_) (fun h => ?_) <;> first | (cases h; done) | simp -implicitDefEqProofs only [hc, rs_linear_Valid, Bool.not_eq_true', Bool.not_eq_false', go_sem, eq_self, Nat.reduceEqDiff, Nat.reduceBEq, Nat.reduceAdd, Nat.reduceLeDiff, reduceIte, reduceCtorEq, tysA, tyA, Ty.enc, Ty.encs])
      | (refine ⟨fun h => ?_, fun h => ?_⟩ <;> first | (cases h; done) | (simp -implicitDefEqProofs only [h]; done) | (try simp -implicitDefEqProofs only [h]))
      | fail))
    simp [validP, hc]
  | true =>
  by_cases hl : ts.length ≤ 16
  case neg =>
    (repeat' (first
      | refine Run.seq ?_
      | refine Run.skip ?_
      | refine Run.block ?_
      | refine Run.blk ?_
      | refine Run.scope ?_
      | refine Run.scp ?_
      | (refine Run.exit rfl ?_)
      | (refine Run.reg mixed ?_; simp -implicitDefEqProofs only [hc, gt16, List.length_map, decide_eq_false hl, rs_linear_Valid, Bool.not_eq_true', Bool.not_eq_false', go_sem, eq_self, Nat.reduceEqDiff, Nat.reduceBEq, Nat.reduceAdd, Nat.reduceLeDiff, reduceIte, reduceCtorEq, tysA, tyA, Ty.enc, Ty.encs])
      | (refine Run.condM ?_; simp -implicitDefEqProofs only [hc, gt16, List.length_map, decide_eq_false hl, rs_linear_Valid, Bool.not_eq_true', Bool.not_eq_false', go_sem, eq_self, Nat.reduceEqDiff, Nat.reduceBEq, Nat.reduceAdd, Nat.reduceLeDiff, reduceIte, reduceCtorEq, tysA, tyA, Ty.enc, Ty.encs])
      | (refine Run.retP g_linear_Valid (Heap.le_refl _) ?_; simp -implicitDefEqProofs only [rs_linear_Valid, hc, gt16, List.length_map, decide_eq_false hl, go_sem, eq_self, Nat.reduceEqDiff, Nat.reduceBEq, Nat.reduceAdd, Nat.reduceLeDiff, reduceIte, reduceCtorEq, tysA, tyA, Ty.enc, Ty.encs])
      | (refine XCall.det (linear_small_ok _ _) ?_; simp -implicitDefEqProofs only [hc, gt16, List.length_map, decide_eq_false hl, rs_linear_Valid, Bool.not_eq_true', Bool.not_eq_false', go_sem, eq_self, Nat.reduceEqDiff, Nat.reduceBEq, Nat.reduceAdd, Nat.reduceLeDiff, reduceIte, reduceCtorEq, tysA, tyA, Ty.enc, Ty.encs])
      | (refine xo_gs rfl (fun h => ?_) (fun h => ?_) <;> first | (cases h; done) | simp -implicitDefEqProofs only [hc, gt16, List.length_map, decide_eq_false hl, rs_linear_Valid, Bool.not_eq_true', Bool.not_eq_false', go_sem, eq_self, Nat.reduceEqDiff, Nat.reduceBEq, Nat.reduceAdd, Nat.reduceLeDiff, reduceIte, reduceCtorEq, tysA, tyA, Ty.enc, Ty.encs])
      | (refine ⟨fun h => ?_, fun h => ?_⟩ <;> first | (cases h; done) | (simp -implicitDefEqProofs only [h]; done) | (try simp -implicitDefEqProofs only [h]))
      | fail))
    simp [validP, hl]
  (repeat' (first
      | refine Run.seq ?_
      | refine Run.skip ?_
      | refine Run.block ?_
      | refine Run.blk ?_
      | refine Run.scope ?_
      | refine Run.scp ?_
      | (refine Run.exit rfl ?_)
      | (refine Run.reg mixed ?_; simp -implicitDefEqProofs only [hc, gt16, List.length_map, decide_eq_true hl, rs_linear_Valid, Bool.not_eq_true', Bool.not_eq_false', go_sem, eq_self, Nat.reduceEqDiff, Nat.reduceBEq, Nat.reduceAdd, Nat.reduceLeDiff, reduceIte, reduceCtorEq, tysA, tyA, Ty.enc, Ty.encs])
      | (refine Run.condM ?_; simp -implicitDefEqProofs only [hc, gt16, List.length_map, decide_eq_true hl, rs_linear_Valid, Bool.not_eq_true', Bool.not_eq_false', go_sem, eq_self, Nat.reduceEqDiff, Nat.reduceBEq, Nat.reduceAdd, Nat.reduceLeDiff, reduceIte, reduceCtorEq, tysA, tyA, Ty.enc, Ty.encs])
      | (refine Run.retP g_linear_Valid (Heap.le_refl _) ?_; simp -implicitDefEqProofs only [rs_linear_Valid, hc, gt16, List.length_map, decide_eq_true hl, go_sem, eq_self, Nat.reduceEqDiff, Nat.reduceBEq, Nat.reduceAdd, Nat.reduceLeDiff, reduceIte, reduceCtorEq, tysA, tyA, Ty.enc, Ty.encs])
      | (refine XCall.det (linear_small_ok _ _) ?_; simp -implicitDefEqProofs only [hc, gt16, List.length_map, decide_eq_true hl, rs_linear_Valid, Bool.not_eq_true', Bool.not_eq_false', go_sem, eq_self, Nat.reduceEqDiff, Nat.reduceBEq, Nat.reduceAdd, Nat.reduceLeDiff, reduceIte, reduceCtorEq, tysA, tyA, Ty.enc, Ty.encs])
      | (refine xo_gs rfl (fun h => ?_) (fun h => ?_) <;> first | (cases h; done) | simp -implicitDefEqProofs only [hc, gt16, List.length_map, decide_eq_true hl, rs_linear_Valid, Bool.not_eq_true', Bool.not_eq_false', go_sem, eq_self, Nat.reduceEqDiff, Nat.reduceBEq, Nat.reduceAdd, Nat.reduceLeDiff, reduceIte, reduceCtorEq, tysA, tyA, Ty.enc, Ty.encs])
      | (refine ⟨fun h => ?_, fun h => ?_⟩ <;> first | (cases h; done) | (simp -implicitDefEqProofs only [h]; done) | (try simp -implicitDefEqProofs only [h]))
      | fail))
  refine Run.loopA ?_
  refine Run.loopI ((fun (a1 : AV) (a16 : AV) (a17 : AV) => fun (i : Nat) => put 1 a1 (put 16 a16 (put 17 a17 (put 18 (.d (.int .i64 i)) U)))) _ _ _) (fun _ => putL 1 [.d (.int .i64 c), .d (.sl (ts.map tmR))] E) (fun _ => σ) (fun i => i ≤ ts.length ∧ okTs none ts = okTs (pvAt ts i) (ts.drop i)) (fun i => ts.length - i) ?_ 0 ⟨by simp, rfl⟩
  rintro i ⟨hi, hok⟩ ih
  by_cases hlt : i < ts.length
  · obtain ⟨x, hx⟩ := ex_at hlt
    rw [drop_at hx, okTs] at hok
    have hw1 := wrap_succ (show i + 1 ≤ 9000000000000000000 by omega)
    have hx' := tm_at hx
    cases hva : vaB x.1 with
    | false =>
      (repeat' (first
      | refine Run.seq ?_
      | refine Run.skip ?_
      | refine Run.block ?_
      | refine Run.blk ?_
      | refine Run.scope ?_
      | refine Run.scp ?_
      | (refine Run.exit rfl ?_)
      | (refine Run.reg mixed ?_; simp -implicitDefEqProofs only [lt_t hlt, hx', hva, Option.bind_some, rs_linear_Valid, Bool.not_eq_true', Bool.not_eq_false', go_sem, eq_self, Nat.reduceEqDiff, Nat.reduceBEq, Nat.reduceAdd, Nat.reduceLeDiff, reduceIte, reduceCtorEq, tysA, tyA, Ty.enc, Ty.encs])
      | (refine Run.condM ?_; simp -implicitDefEqProofs only [lt_t hlt, hx', hva, Option.bind_some, rs_linear_Valid, Bool.not_eq_true', Bool.not_eq_false', go_sem, eq_self, Nat.reduceEqDiff, Nat.reduceBEq, Nat.reduceAdd, Nat.reduceLeDiff, reduceIte, reduceCtorEq, tysA, tyA, Ty.enc, Ty.encs])
      | (refine Run.retP g_linear_Valid (Heap.le_refl _) ?_; simp -implicitDefEqProofs only [rs_linear_Valid, lt_t hlt, hx', hva, Option.bind_some, go_sem, eq_self, Nat.reduceEqDiff, Nat.reduceBEq, Nat.reduceAdd, Nat.reduceLeDiff, reduceIte, reduceCtorEq, tysA, tyA, Ty.enc, Ty.encs])
      | (refine XCall.det (linear_small_ok _ _) ?_; simp -implicitDefEqProofs only [lt_t hlt, hx', hva, Option.bind_some, rs_linear_Valid, Bool.not_eq_true', Bool.not_eq_false', go_sem, eq_self, Nat.reduceEqDiff, Nat.reduceBEq, Nat.reduceAdd, Nat.reduceLeDiff, reduceIte, reduceCtorEq, tysA, tyA, Ty.enc, Ty.encs])
      | (refine XCall.det (linear_variable_ok _ _) ?_; simp -implicitDefEqProofs only [lt_t hlt, hx', hva, Option.bind_some, rs_linear_Valid, Bool.not_eq_true', Bool.not_eq_false', go_sem, eq_self, Nat.reduceEqDiff, Nat.reduceBEq, Nat.reduceAdd, Nat.reduceLeDiff, reduceIte, reduceCtorEq, tysA, tyA, Ty.enc, Ty.encs])
      | (refine xo_gs rfl (fun h => ?_) (fun h => ?_) <;> first | (cases h; done) | simp -implicitDefEqProofs only [lt_t hlt, hx', hva, Option.bind_some, rs_linear_Valid, Bool.not_eq_true', Bool.not_eq_false', go_sem, eq_self, Nat.reduceEqDiff, Nat.reduceBEq, Nat.reduceAdd, Nat.reduceLeDiff, reduceIte, reduceCtorEq, tysA, tyA, Ty.enc, Ty.encs])
      | (refine ⟨fun h => ?_, fun h => ?_⟩ <;> first | (cases h; done) | (simp -implicitDefEqProofs only [h]; done) | (try simp -implicitDefEqProofs only [h]))
      | fail))
      simp [validP, hok, hva]
    | true =>
    cases hz : (x.2 == 0) with
    | true =>
      (repeat' (first
      | refine Run.seq ?_
      | refine Run.skip ?_
      | refine Run.block ?_
      | refine Run.blk ?_
      | refine Run.scope ?_
      | refine Run.scp ?_
      | (refine Run.exit rfl ?_)
      | (refine Run.reg mixed ?_; simp -implicitDefEqProofs only [lt_t hlt, hx', hva, hz, rs_linear_Valid, Bool.not_eq_true', Bool.not_eq_false', go_sem, eq_self, Nat.reduceEqDiff, Nat.reduceBEq, Nat.reduceAdd, Nat.reduceLeDiff, reduceIte, reduceCtorEq, tysA, tyA, Ty.enc, Ty.encs])
      | (refine Run.condM ?_; simp -implicitDefEqProofs only [lt_t hlt, hx', hva, hz, rs_linear_Valid, Bool.not_eq_true', Bool.not_eq_false', go_sem, eq_self, Nat.reduceEqDiff, Nat.reduceBEq, Nat.reduceAdd, Nat.reduceLeDiff, reduceIte, reduceCtorEq, tysA, tyA, Ty.enc, Ty.encs])
      | (refine Run.retP g_linear_Valid (Heap.le_refl _) ?_; simp -implicitDefEqProofs only [rs_linear_Valid, lt_t hlt, hx', hva, hz, go_sem, eq_self, Nat.reduceEqDiff, Nat.reduceBEq, Nat.reduceAdd, Nat.reduceLeDiff, reduceIte, reduceCtorEq, tysA, tyA, Ty.enc, Ty.encs])
      | (refine XCall.det (linear_small_ok _ _) ?_; simp -implicitDefEqProofs only [lt_t hlt, hx', hva, hz, rs_linear_Valid, Bool.not_eq_true', Bool.not_eq_false', go_sem, eq_self, Nat.reduceEqDiff, Nat.reduceBEq, Nat.reduceAdd, Nat.reduceLeDiff, reduceIte, reduceCtorEq, tysA, tyA, Ty.enc, Ty.encs])
      | (refine XCall.det (linear_variable_ok _ _) ?_; simp -implicitDefEqProofs only [lt_t hlt, hx', hva, hz, rs_linear_Valid, Bool.not_eq_true', Bool.not_eq_false', go_sem, eq_self, Nat.reduceEqDiff, Nat.reduceBEq, Nat.reduceAdd, Nat.reduceLeDiff, reduceIte, reduceCtorEq, tysA, tyA, Ty.enc, Ty.encs])
      | (refine xo_gs rfl (fun h => ?_) (fun h => ?_) <;> first | (cases h; done) | simp -implicitDefEqProofs only [lt_t hlt, hx', hva, hz, rs_linear_Valid, Bool.not_eq_true', Bool.not_eq_false', go_sem, eq_self, Nat.reduceEqDiff, Nat.reduceBEq, Nat.reduceAdd, Nat.reduceLeDiff, reduceIte, reduceCtorEq, tysA, tyA, Ty.enc, Ty.encs])
      | (refine ⟨fun h => ?_, fun h => ?_⟩ <;> first | (cases h; done) | (simp -implicitDefEqProofs only [h]; done) | (try simp -implicitDefEqProofs only [h]))
      | fail))
      simp [validP, hok, hz]
    | false =>
    cases hsm : smB x.2 with
    | false =>
      (repeat' (first
      | refine Run.seq ?_
      | refine Run.skip ?_
      | refine Run.block ?_
      | refine Run.blk ?_
      | refine Run.scope ?_
      | refine Run.scp ?_
      | (refine Run.exit rfl ?_)
      | (refine Run.reg mixed ?_; simp -implicitDefEqProofs only [lt_t hlt, hx', hva, hz, hsm, rs_linear_Valid, Bool.not_eq_true', Bool.not_eq_false', go_sem, eq_self, Nat.reduceEqDiff, Nat.reduceBEq, Nat.reduceAdd, Nat.reduceLeDiff, reduceIte, reduceCtorEq, tysA, tyA, Ty.enc, Ty.encs])
      | (refine Run.condM ?_; simp -implicitDefEqProofs only [lt_t hlt, hx', hva, hz, hsm, rs_linear_Valid, Bool.not_eq_true', Bool.not_eq_false', go_sem, eq_self, Nat.reduceEqDiff, Nat.reduceBEq, Nat.reduceAdd, Nat.reduceLeDiff, reduceIte, reduceCtorEq, tysA, tyA, Ty.enc, Ty.encs])
      | (refine Run.retP g_linear_Valid (Heap.le_refl _) ?_; simp -implicitDefEqProofs only [rs_linear_Valid, lt_t hlt, hx', hva, hz, hsm, go_sem, eq_self, Nat.reduceEqDiff, Nat.reduceBEq, Nat.reduceAdd, Nat.reduceLeDiff, reduceIte, reduceCtorEq, tysA, tyA, Ty.enc, Ty.encs])
      | (refine XCall.det (linear_small_ok _ _) ?_; simp -implicitDefEqProofs only [lt_t hlt, hx', hva, hz, hsm, rs_linear_Valid, Bool.not_eq_true', Bool.not_eq_false', go_sem, eq_self, Nat.reduceEqDiff, Nat.reduceBEq, Nat.reduceAdd, Nat.reduceLeDiff, reduceIte, reduceCtorEq, tysA, tyA, Ty.enc, Ty.encs])
      | (refine XCall.det (linear_variable_ok _ _) ?_; simp -implicitDefEqProofs only [lt_t hlt, hx', hva, hz, hsm, rs_linear_Valid, Bool.not_eq_true', Bool.not_eq_false', go_sem, eq_self, Nat.reduceEqDiff, Nat.reduceBEq, Nat.reduceAdd, Nat.reduceLeDiff, reduceIte, reduceCtorEq, tysA, tyA, Ty.enc, Ty.encs])
      | (refine xo_gs rfl (fun h => ?_) (fun h => ?_) <;> first | (cases h; done) | simp -implicitDefEqProofs only [lt_t hlt, hx', hva, hz, hsm, rs_linear_Valid, Bool.not_eq_true', Bool.not_eq_false', go_sem, eq_self, Nat.reduceEqDiff, Nat.reduceBEq, Nat.reduceAdd, Nat.reduceLeDiff, reduceIte, reduceCtorEq, tysA, tyA, Ty.enc, Ty.encs])
      | (refine ⟨fun h => ?_, fun h => ?_⟩ <;> first | (cases h; done) | (simp -implicitDefEqProofs only [h]; done) | (try simp -implicitDefEqProofs only [h]))
      | fail))
      simp [validP, hok, hsm]
    | true =>
    simp only [hva, hz, hsm, Bool.not_false, Bool.true_and] at hok
    rcases Nat.eq_zero_or_pos i with h0 | h0
    · have hpos : decide ((0 : Int) < (i : Int)) = false := by simp; omega
      (repeat' (first
      | refine Run.seq ?_
      | refine Run.skip ?_
      | refine Run.block ?_
      | refine Run.blk ?_
      | refine Run.scope ?_
      | refine Run.scp ?_
      | (refine Run.exit rfl ?_)
      | (refine Run.reg mixed ?_; simp -implicitDefEqProofs only [lt_t hlt, hx', hva, hz, hsm, hw1, hpos, rs_linear_Valid, Bool.not_eq_true', Bool.not_eq_false', go_sem, eq_self, Nat.reduceEqDiff, Nat.reduceBEq, Nat.reduceAdd, Nat.reduceLeDiff, reduceIte, reduceCtorEq, tysA, tyA, Ty.enc, Ty.encs])
      | (refine Run.condM ?_; simp -implicitDefEqProofs only [lt_t hlt, hx', hva, hz, hsm, hw1, hpos, rs_linear_Valid, Bool.not_eq_true', Bool.not_eq_false', go_sem, eq_self, Nat.reduceEqDiff, Nat.reduceBEq, Nat.reduceAdd, Nat.reduceLeDiff, reduceIte, reduceCtorEq, tysA, tyA, Ty.enc, Ty.encs])
      | (refine Run.retP g_linear_Valid (Heap.le_refl _) ?_; simp -implicitDefEqProofs only [rs_linear_Valid, lt_t hlt, hx', hva, hz, hsm, hw1, hpos, go_sem, eq_self, Nat.reduceEqDiff, Nat.reduceBEq, Nat.reduceAdd, Nat.reduceLeDiff, reduceIte, reduceCtorEq, tysA, tyA, Ty.enc, Ty.encs])
      | (refine XCall.det (linear_small_ok _ _) ?_; simp -implicitDefEqProofs only [lt_t hlt, hx', hva, hz, hsm, hw1, hpos, rs_linear_Valid, Bool.not_eq_true', Bool.not_eq_false', go_sem, eq_self, Nat.reduceEqDiff, Nat.reduceBEq, Nat.reduceAdd, Nat.reduceLeDiff, reduceIte, reduceCtorEq, tysA, tyA, Ty.enc, Ty.encs])
      | (refine XCall.det (linear_variable_ok _ _) ?_; simp -implicitDefEqProofs only [lt_t hlt, hx', hva, hz, hsm, hw1, hpos, rs_linear_Valid, Bool.not_eq_true', Bool.not_eq_false', go_sem, eq_self, Nat.reduceEqDiff, Nat.reduceBEq, Nat.reduceAdd, Nat.reduceLeDiff, reduceIte, reduceCtorEq, tysA, tyA, Ty.enc, Ty.encs])
      | (refine xo_gs rfl (fun h => ?_) (fun h => ?_) <;> first | (cases h; done) | simp -implicitDefEqProofs only [lt_t hlt, hx', hva, hz, hsm, hw1, hpos, rs_linear_Valid, Bool.not_eq_true', Bool.not_eq_false', go_sem, eq_self, Nat.reduceEqDiff, Nat.reduceBEq, Nat.reduceAdd, Nat.reduceLeDiff, reduceIte, reduceCtorEq, tysA, tyA, Ty.enc, Ty.encs])
      | (refine ⟨fun h => ?_, fun h => ?_⟩ <;> first | (cases h; done) | (simp -implicitDefEqProofs only [h]; done) | (try simp -implicitDefEqProofs only [h]))
      | fail))
      refine ih (i + 1) ⟨by omega, ?_⟩ (by omega)
      rw [hok, h0]
      rw [h0] at hx
      simp [pvAt, pvOk, hx]
    · obtain ⟨j, hj⟩ : ∃ j, i = j + 1 := ⟨i - 1, by omega⟩
      obtain ⟨y, hy⟩ := ex_at (show j < ts.length by omega)
      have hy' := tm_at hy
      have hpos : decide ((0 : Int) < (i : Int)) = true := by simp; omega
      have hsub : IntKind.i64.wrap ((i : Int) - 1) = (j : Int) := by
        rw [wrap_pos (by omega) (by omega)]; omega
      by_cases hp : y.1 < x.1
      · have hp' : decide (x.1 ≤ y.1) = false := by simpa using hp
        (repeat' (first
      | refine Run.seq ?_
      | refine Run.skip ?_
      | refine Run.block ?_
      | refine Run.blk ?_
      | refine Run.scope ?_
      | refine Run.scp ?_
      | (refine Run.exit rfl ?_)
      | (refine Run.reg mixed ?_; simp -implicitDefEqProofs only [lt_t hlt, hx', hy', hva, hz, hsm, hw1, hpos, hsub, hp', rs_linear_Valid, Bool.not_eq_true', Bool.not_eq_false', go_sem, eq_self, Nat.reduceEqDiff, Nat.reduceBEq, Nat.reduceAdd, Nat.reduceLeDiff, reduceIte, reduceCtorEq, tysA, tyA, Ty.enc, Ty.encs])
      | (refine Run.condM ?_; simp -implicitDefEqProofs only [lt_t hlt, hx', hy', hva, hz, hsm, hw1, hpos, hsub, hp', rs_linear_Valid, Bool.not_eq_true', Bool.not_eq_false', go_sem, eq_self, Nat.reduceEqDiff, Nat.reduceBEq, Nat.reduceAdd, Nat.reduceLeDiff, reduceIte, reduceCtorEq, tysA, tyA, Ty.enc, Ty.encs])
      | (refine Run.retP g_linear_Valid (Heap.le_refl _) ?_; simp -implicitDefEqProofs only [rs_linear_Valid, lt_t hlt, hx', hy', hva, hz, hsm, hw1, hpos, hsub, hp', go_sem, eq_self, Nat.reduceEqDiff, Nat.reduceBEq, Nat.reduceAdd, Nat.reduceLeDiff, reduceIte, reduceCtorEq, tysA, tyA, Ty.enc, Ty.encs])
      | (refine XCall.det (linear_small_ok _ _) ?_; simp -implicitDefEqProofs only [lt_t hlt, hx', hy', hva, hz, hsm, hw1, hpos, hsub, hp', rs_linear_Valid, Bool.not_eq_true', Bool.not_eq_false', go_sem, eq_self, Nat.reduceEqDiff, Nat.reduceBEq, Nat.reduceAdd, Nat.reduceLeDiff, reduceIte, reduceCtorEq, tysA, tyA, Ty.enc, Ty.encs])
      | (refine XCall.det (linear_variable_ok _ _) ?_; simp -implicitDefEqProofs only [lt_t hlt, hx', hy', hva, hz, hsm, hw1, hpos, hsub, hp', rs_linear_Valid, Bool.not_eq_true', Bool.not_eq_false', go_sem, eq_self, Nat.reduceEqDiff, Nat.reduceBEq, Nat.reduceAdd, Nat.reduceLeDiff, reduceIte, reduceCtorEq, tysA, tyA, Ty.enc, Ty.encs])
      | (refine xo_gs rfl (fun h => ?_) (fun h => ?_) <;> first | (cases h; done) | simp -implicitDefEqProofs only [lt_t hlt, hx', hy', hva, hz, hsm, hw1, hpos, hsub, hp', rs_linear_Valid, Bool.not_eq_true', Bool.not_eq_false', go_sem, eq_self, Nat.reduceEqDiff, Nat.reduceBEq, Nat.reduceAdd, Nat.reduceLeDiff, reduceIte, reduceCtorEq, tysA, tyA, Ty.enc, Ty.encs])
      | (refine ⟨fun h => ?_, fun h => ?_⟩ <;> first | (cases h; done) | (simp -implicitDefEqProofs only [h]; done) | (try simp -implicitDefEqProofs only [h]))
      | fail))
        refine ih (i + 1) ⟨by omega, ?_⟩ (by omega)
        rw [hok, hj]
        rw [hj] at hx
        simp [pvAt, pvOk, hx, hy, hp]
      · have hp' : decide (x.1 ≤ y.1) = true := by simp; omega
        (repeat' (first
      | refine Run.seq ?_
      | refine Run.skip ?_
      | refine Run.block ?_
      | refine Run.blk ?_
      | refine Run.scope ?_
      | refine Run.scp ?_
      | (refine Run.exit rfl ?_)
      | (refine Run.reg mixed ?_; simp -implicitDefEqProofs only [lt_t hlt, hx', hy', hva, hz, hsm, hw1, hpos, hsub, hp', rs_linear_Valid, Bool.not_eq_true', Bool.not_eq_false', go_sem, eq_self, Nat.reduceEqDiff, Nat.reduceBEq, Nat.reduceAdd, Nat.reduceLeDiff, reduceIte, reduceCtorEq, tysA, tyA, Ty.enc, Ty.encs])
      | (refine Run.condM ?_; simp -implicitDefEqProofs only [lt_t hlt, hx', hy', hva, hz, hsm, hw1, hpos, hsub, hp', rs_linear_Valid, Bool.not_eq_true', Bool.not_eq_false', go_sem, eq_self, Nat.reduceEqDiff, Nat.reduceBEq, Nat.reduceAdd, Nat.reduceLeDiff, reduceIte, reduceCtorEq, tysA, tyA, Ty.enc, Ty.encs])
      | (refine Run.retP g_linear_Valid (Heap.le_refl _) ?_; simp -implicitDefEqProofs only [rs_linear_Valid, lt_t hlt, hx', hy', hva, hz, hsm, hw1, hpos, hsub, hp', go_sem, eq_self, Nat.reduceEqDiff, Nat.reduceBEq, Nat.reduceAdd, Nat.reduceLeDiff, reduceIte, reduceCtorEq, tysA, tyA, Ty.enc, Ty.encs])
      | (refine XCall.det (linear_small_ok _ _) ?_; simp -implicitDefEqProofs only [lt_t hlt, hx', hy', hva, hz, hsm, hw1, hpos, hsub, hp', rs_linear_Valid, Bool.not_eq_true', Bool.not_eq_false', go_sem, eq_self, Nat.reduceEqDiff, Nat.reduceBEq, Nat.reduceAdd, Nat.reduceLeDiff, reduceIte, reduceCtorEq, tysA, tyA, Ty.enc, Ty.encs])
      | (refine XCall.det (linear_variable_ok _ _) ?_; simp -implicitDefEqProofs only [lt_t hlt, hx', hy', hva, hz, hsm, hw1, hpos, hsub, hp', rs_linear_Valid, Bool.not_eq_true', Bool.not_eq_false', go_sem, eq_self, Nat.reduceEqDiff, Nat.reduceBEq, Nat.reduceAdd, Nat.reduceLeDiff, reduceIte, reduceCtorEq, tysA, tyA, Ty.enc, Ty.encs])
      | (refine xo_gs rfl (fun h => ?_) (fun h => ?_) <;> first | (cases h; done) | simp -implicitDefEqProofs only [lt_t hlt, hx', hy', hva, hz, hsm, hw1, hpos, hsub, hp', rs_linear_Valid, Bool.not_eq_true', Bool.not_eq_false', go_sem, eq_self, Nat.reduceEqDiff, Nat.reduceBEq, Nat.reduceAdd, Nat.reduceLeDiff, reduceIte, reduceCtorEq, tysA, tyA, Ty.enc, Ty.encs])
      | (refine ⟨fun h => ?_, fun h => ?_⟩ <;> first | (cases h; done) | (simp -implicitDefEqProofs only [h]; done) | (try simp -implicitDefEqProofs only [h]))
      | fail))
        rw [hj] at hok
        simp [validP, hok, pvAt, pvOk, hy, hp]
  · have hge : i = ts.length := by omega
    (repeat' (first
      | refine Run.seq ?_
      | refine Run.skip ?_
      | refine Run.block ?_
      | refine Run.blk ?_
      | refine Run.scope ?_
      | refine Run.scp ?_
      | (refine Run.exit rfl ?_)
      | (refine Run.reg mixed ?_; simp -implicitDefEqProofs only [lt_f hlt, rs_linear_Valid, Bool.not_eq_true', Bool.not_eq_false', go_sem, eq_self, Nat.reduceEqDiff, Nat.reduceBEq, Nat.reduceAdd, Nat.reduceLeDiff, reduceIte, reduceCtorEq, tysA, tyA, Ty.enc, Ty.encs])
      | (refine Run.condM ?_; simp -implicitDefEqProofs only [lt_f hlt, rs_linear_Valid, Bool.not_eq_true', Bool.not_eq_false', go_sem, eq_self, Nat.reduceEqDiff, Nat.reduceBEq, Nat.reduceAdd, Nat.reduceLeDiff, reduceIte, reduceCtorEq, tysA, tyA, Ty.enc, Ty.encs])
      | (refine Run.retP g_linear_Valid (Heap.le_refl _) ?_; simp -implicitDefEqProofs only [rs_linear_Valid, lt_f hlt, go_sem, eq_self, Nat.reduceEqDiff, Nat.reduceBEq, Nat.reduceAdd, Nat.reduceLeDiff, reduceIte, reduceCtorEq, tysA, tyA, Ty.enc, Ty.encs])
      | (refine xo_gs rfl (fun h => ?_) (fun h => ?_) <;> first | (cases h; done) | simp -implicitDefEqProofs only [lt_f hlt, rs_linear_Valid, Bool.not_eq_true', Bool.not_eq_false', go_sem, eq_self, Nat.reduceEqDiff, Nat.reduceBEq, Nat.reduceAdd, Nat.reduceLeDiff, reduceIte, reduceCtorEq, tysA, tyA, Ty.enc, Ty.encs])
      | (refine ⟨fun h => ?_, fun h => ?_⟩ <;> first | (cases h; done) | (simp -implicitDefEqProofs only [h]; done) | (try simp -implicitDefEqProofs only [h]))
      | fail))
    rw [hge, List.drop_length] at hok
    simp [validP, hc, hl, hok, okTs]
set_option maxHeartbeats 4000000 in
theorem r19_Valid_ok (l : Ln) (σ : Heap) : ACalls Tryd.prog 26 [linA l] σ (fun v σ' => v = .d (.bool (validP l)) ∧ σ' = σ) := by
  obtain ⟨c, ts⟩ := l
  refine i_r19_Valid (by simp) ?_
  rw [argF_1, linA]
  by_cases hl : ts.length ≤ 16
  case neg =>
    (repeat' (first
      | refine Run.seq ?_
      | refine Run.skip ?_
      | refine Run.block ?_
      | refine Run.blk ?_
      | refine Run.scope ?_
      | refine Run.scp ?_
      | (refine Run.exit rfl ?_)
      | (refine Run.reg mixed ?_; simp -implicitDefEqProofs only [gt16, List.length_map, decide_eq_false hl, rs_r19_Valid, Bool.not_eq_true', Bool.not_eq_false', go_sem, eq_self, Nat.reduceEqDiff, Nat.reduceBEq, Nat.reduceAdd, Nat.reduceLeDiff, reduceIte, reduceCtorEq, tysA, tyA, Ty.enc, Ty.encs])
      | (refine Run.condM ?_; simp -implicitDefEqProofs only [gt16, List.length_map, decide_eq_false hl, rs_r19_Valid, Bool.not_eq_true', Bool.not_eq_false', go_sem, eq_self, Nat.reduceEqDiff, Nat.reduceBEq, Nat.reduceAdd, Nat.reduceLeDiff, reduceIte, reduceCtorEq, tysA, tyA, Ty.enc, Ty.encs])
      | (refine Run.retP g_r19_Valid (Heap.le_refl _) ?_; simp -implicitDefEqProofs only [rs_r19_Valid, gt16, List.length_map, decide_eq_false hl, go_sem, eq_self, Nat.reduceEqDiff, Nat.reduceBEq, Nat.reduceAdd, Nat.reduceLeDiff, reduceIte, reduceCtorEq, tysA, tyA, Ty.enc, Ty.encs])
      | (refine xo_gs rfl (fun h => ?_) (fun h => ?_) <;> first | (cases h; done) | simp -implicitDefEqProofs only [gt16, List.length_map, decide_eq_false hl, rs_r19_Valid, Bool.not_eq_true', Bool.not_eq_false', go_sem, eq_self, Nat.reduceEqDiff, Nat.reduceBEq, Nat.reduceAdd, Nat.reduceLeDiff, reduceIte, reduceCtorEq, tysA, tyA, Ty.enc, Ty.encs])
      | (refine ⟨fun h => ?_, fun h => ?_⟩ <;> first | (cases h; done) | (simp -implicitDefEqProofs only [h]; done) | (try simp -implicitDefEqProofs only [h]))
      | fail))
    simp [validP, hl]
  by_cases hc1 : c < -1048576
  · (repeat' (first
      | refine Run.seq ?_
      | refine Run.skip ?_
      | refine Run.block ?_
      | refine Run.blk ?_
      | refine Run.scope ?_
      | refine Run.scp ?_
      | (refine Run.exit rfl ?_)
      | (refine Run.reg mixed ?_; simp -implicitDefEqProofs only [decide_eq_true hc1, gt16, List.length_map, decide_eq_true hl, rs_r19_Valid, Bool.not_eq_true', Bool.not_eq_false', go_sem, eq_self, Nat.reduceEqDiff, Nat.reduceBEq, Nat.reduceAdd, Nat.reduceLeDiff, reduceIte, reduceCtorEq, tysA, tyA, Ty.enc, Ty.encs])
      | (refine Run.condM ?_; simp -implicitDefEqProofs only [decide_eq_true hc1, gt16, List.length_map, decide_eq_true hl, rs_r19_Valid, Bool.not_eq_true', Bool.not_eq_false', go_sem, eq_self, Nat.reduceEqDiff, Nat.reduceBEq, Nat.reduceAdd, Nat.reduceLeDiff, reduceIte, reduceCtorEq, tysA, tyA, Ty.enc, Ty.encs])
      | (refine Run.retP g_r19_Valid (Heap.le_refl _) ?_; simp -implicitDefEqProofs only [rs_r19_Valid, decide_eq_true hc1, gt16, List.length_map, decide_eq_true hl, go_sem, eq_self, Nat.reduceEqDiff, Nat.reduceBEq, Nat.reduceAdd, Nat.reduceLeDiff, reduceIte, reduceCtorEq, tysA, tyA, Ty.enc, Ty.encs])
      | (refine xo_gs rfl (fun h => ?_) (fun h => ?_) <;> first | (cases h; done) | simp -implicitDefEqProofs only [decide_eq_true hc1, gt16, List.length_map, decide_eq_true hl, rs_r19_Valid, Bool.not_eq_true', Bool.not_eq_false', go_sem, eq_self, Nat.reduceEqDiff, Nat.reduceBEq, Nat.reduceAdd, Nat.reduceLeDiff, reduceIte, reduceCtorEq, tysA, tyA, Ty.enc, Ty.encs])
      | (refine ⟨fun h => ?_, fun h => ?_⟩ <;> first | (cases h; done) | (simp -implicitDefEqProofs only [h]; done) | (try simp -implicitDefEqProofs only [h]))
      | fail))
    have : smB c = false := by simp [smB]; omega
    simp [validP, this]
  by_cases hc2 : 1048576 < c
  · (repeat' (first
      | refine Run.seq ?_
      | refine Run.skip ?_
      | refine Run.block ?_
      | refine Run.blk ?_
      | refine Run.scope ?_
      | refine Run.scp ?_
      | (refine Run.exit rfl ?_)
      | (refine Run.reg mixed ?_; simp -implicitDefEqProofs only [decide_eq_false hc1, decide_eq_true hc2, gt16, List.length_map, decide_eq_true hl, rs_r19_Valid, Bool.not_eq_true', Bool.not_eq_false', go_sem, eq_self, Nat.reduceEqDiff, Nat.reduceBEq, Nat.reduceAdd, Nat.reduceLeDiff, reduceIte, reduceCtorEq, tysA, tyA, Ty.enc, Ty.encs])
      | (refine Run.condM ?_; simp -implicitDefEqProofs only [decide_eq_false hc1, decide_eq_true hc2, gt16, List.length_map, decide_eq_true hl, rs_r19_Valid, Bool.not_eq_true', Bool.not_eq_false', go_sem, eq_self, Nat.reduceEqDiff, Nat.reduceBEq, Nat.reduceAdd, Nat.reduceLeDiff, reduceIte, reduceCtorEq, tysA, tyA, Ty.enc, Ty.encs])
      | (refine Run.retP g_r19_Valid (Heap.le_refl _) ?_; simp -implicitDefEqProofs only [rs_r19_Valid, decide_eq_false hc1, decide_eq_true hc2, gt16, List.length_map, decide_eq_true hl, go_sem, eq_self, Nat.reduceEqDiff, Nat.reduceBEq, Nat.reduceAdd, Nat.reduceLeDiff, reduceIte, reduceCtorEq, tysA, tyA, Ty.enc, Ty.encs])
      | (refine xo_gs rfl (fun h => ?_) (fun h => ?_) <;> first | (cases h; done) | simp -implicitDefEqProofs only [decide_eq_false hc1, decide_eq_true hc2, gt16, List.length_map, decide_eq_true hl, rs_r19_Valid, Bool.not_eq_true', Bool.not_eq_false', go_sem, eq_self, Nat.reduceEqDiff, Nat.reduceBEq, Nat.reduceAdd, Nat.reduceLeDiff, reduceIte, reduceCtorEq, tysA, tyA, Ty.enc, Ty.encs])
      | (refine ⟨fun h => ?_, fun h => ?_⟩ <;> first | (cases h; done) | (simp -implicitDefEqProofs only [h]; done) | (try simp -implicitDefEqProofs only [h]))
      | fail))
    have : smB c = false := by simp [smB]; omega
    simp [validP, this]
  have hc : smB c = true := by simp [smB]; omega
  (repeat' (first
      | refine Run.seq ?_
      | refine Run.skip ?_
      | refine Run.block ?_
      | refine Run.blk ?_
      | refine Run.scope ?_
      | refine Run.scp ?_
      | (refine Run.exit rfl ?_)
      | (refine Run.reg mixed ?_; simp -implicitDefEqProofs only [decide_eq_false hc1, decide_eq_false hc2, gt16, List.length_map, decide_eq_true hl, rs_r19_Valid, Bool.not_eq_true', Bool.not_eq_false', go_sem, eq_self, Nat.reduceEqDiff, Nat.reduceBEq, Nat.reduceAdd, Nat.reduceLeDiff, reduceIte, reduceCtorEq, tysA, tyA, Ty.enc, Ty.encs])
      | (refine Run.condM ?_; simp -implicitDefEqProofs only [decide_eq_false hc1, decide_eq_false hc2, gt16, List.length_map, decide_eq_true hl, rs_r19_Valid, Bool.not_eq_true', Bool.not_eq_false', go_sem, eq_self, Nat.reduceEqDiff, Nat.reduceBEq, Nat.reduceAdd, Nat.reduceLeDiff, reduceIte, reduceCtorEq, tysA, tyA, Ty.enc, Ty.encs])
      | (refine Run.retP g_r19_Valid (Heap.le_refl _) ?_; simp -implicitDefEqProofs only [rs_r19_Valid, decide_eq_false hc1, decide_eq_false hc2, gt16, List.length_map, decide_eq_true hl, go_sem, eq_self, Nat.reduceEqDiff, Nat.reduceBEq, Nat.reduceAdd, Nat.reduceLeDiff, reduceIte, reduceCtorEq, tysA, tyA, Ty.enc, Ty.encs])
      | (refine xo_gs rfl (fun h => ?_) (fun h => ?_) <;> first | (cases h; done) | simp -implicitDefEqProofs only [decide_eq_false hc1, decide_eq_false hc2, gt16, List.length_map, decide_eq_true hl, rs_r19_Valid, Bool.not_eq_true', Bool.not_eq_false', go_sem, eq_self, Nat.reduceEqDiff, Nat.reduceBEq, Nat.reduceAdd, Nat.reduceLeDiff, reduceIte, reduceCtorEq, tysA, tyA, Ty.enc, Ty.encs])
      | (refine ⟨fun h => ?_, fun h => ?_⟩ <;> first | (cases h; done) | (simp -implicitDefEqProofs only [h]; done) | (try simp -implicitDefEqProofs only [h]))
      | fail))
  refine Run.loopA ?_
  refine Run.loopI ((fun (a1 : AV) (a20 : AV) (a21 : AV) => fun (i : Nat) => put 1 a1 (put 20 a20 (put 21 a21 (put 22 (.d (.int .i64 i)) U)))) _ _ _) (fun _ => putL 1 [.d (.int .i64 c), .d (.sl (ts.map tmR))] E) (fun _ => σ) (fun i => i ≤ ts.length ∧ okTs none ts = okTs (pvAt ts i) (ts.drop i)) (fun i => ts.length - i) ?_ 0 ⟨by simp, rfl⟩
  rintro i ⟨hi, hok⟩ ih
  by_cases hlt : i < ts.length
  · obtain ⟨x, hx⟩ := ex_at hlt
    rw [drop_at hx, okTs] at hok
    have hw1 := wrap_succ (show i + 1 ≤ 9000000000000000000 by omega)
    have hx' := tm_at hx
    by_cases a1 : x.1 < -1
    · (repeat' (first
      | refine Run.seq ?_
      | refine Run.skip ?_
      | refine Run.block ?_
      | refine Run.blk ?_
      | refine Run.scope ?_
      | refine Run.scp ?_
      | (refine Run.exit rfl ?_)
      | (refine Run.reg mixed ?_; simp -implicitDefEqProofs only [lt_t hlt, hx', decide_eq_true a1, rs_r19_Valid, Bool.not_eq_true', Bool.not_eq_false', go_sem, eq_self, Nat.reduceEqDiff, Nat.reduceBEq, Nat.reduceAdd, Nat.reduceLeDiff, reduceIte, reduceCtorEq, tysA, tyA, Ty.enc, Ty.encs])
      | (refine Run.condM ?_; simp -implicitDefEqProofs only [lt_t hlt, hx', decide_eq_true a1, rs_r19_Valid, Bool.not_eq_true', Bool.not_eq_false', go_sem, eq_self, Nat.reduceEqDiff, Nat.reduceBEq, Nat.reduceAdd, Nat.reduceLeDiff, reduceIte, reduceCtorEq, tysA, tyA, Ty.enc, Ty.encs])
      | (refine Run.retP g_r19_Valid (Heap.le_refl _) ?_; simp -implicitDefEqProofs only [rs_r19_Valid, lt_t hlt, hx', decide_eq_true a1, go_sem, eq_self, Nat.reduceEqDiff, Nat.reduceBEq, Nat.reduceAdd, Nat.reduceLeDiff, reduceIte, reduceCtorEq, tysA, tyA, Ty.enc, Ty.encs])
      | (refine xo_gs rfl (fun h => ?_) (fun h => ?_) <;> first | (cases h; done) | simp -implicitDefEqProofs only [lt_t hlt, hx', decide_eq_true a1, rs_r19_Valid, Bool.not_eq_true', Bool.not_eq_false', go_sem, eq_self, Nat.reduceEqDiff, Nat.reduceBEq, Nat.reduceAdd, Nat.reduceLeDiff, reduceIte, reduceCtorEq, tysA, tyA, Ty.enc, Ty.encs])
      | (refine ⟨fun h => ?_, fun h => ?_⟩ <;> first | (cases h; done) | (simp -implicitDefEqProofs only [h]; done) | (try simp -implicitDefEqProofs only [h]))
      | fail))
      have : vaB x.1 = false := by simp [vaB]; omega
      simp [validP, hok, this]
    by_cases a2 : 3000 ≤ x.1
    · (repeat' (first
      | refine Run.seq ?_
      | refine Run.skip ?_
      | refine Run.block ?_
      | refine Run.blk ?_
      | refine Run.scope ?_
      | refine Run.scp ?_
      | (refine Run.exit rfl ?_)
      | (refine Run.reg mixed ?_; simp -implicitDefEqProofs only [lt_t hlt, hx', decide_eq_false a1, decide_eq_true a2, rs_r19_Valid, Bool.not_eq_true', Bool.not_eq_false', go_sem, eq_self, Nat.reduceEqDiff, Nat.reduceBEq, Nat.reduceAdd, Nat.reduceLeDiff, reduceIte, reduceCtorEq, tysA, tyA, Ty.enc, Ty.encs])
      | (refine Run.condM ?_; simp -implicitDefEqProofs only [lt_t hlt, hx', decide_eq_false a1, decide_eq_true a2, rs_r19_Valid, Bool.not_eq_true', Bool.not_eq_false', go_sem, eq_self, Nat.reduceEqDiff, Nat.reduceBEq, Nat.reduceAdd, Nat.reduceLeDiff, reduceIte, reduceCtorEq, tysA, tyA, Ty.enc, Ty.encs])
      | (refine Run.retP g_r19_Valid (Heap.le_refl _) ?_; simp -implicitDefEqProofs only [rs_r19_Valid, lt_t hlt, hx', decide_eq_false a1, decide_eq_true a2, go_sem, eq_self, Nat.reduceEqDiff, Nat.reduceBEq, Nat.reduceAdd, Nat.reduceLeDiff, reduceIte, reduceCtorEq, tysA, tyA, Ty.enc, Ty.encs])
      | (refine xo_gs rfl (fun h => ?_) (fun h => ?_) <;> first | (cases h; done) | simp -implicitDefEqProofs only [lt_t hlt, hx', decide_eq_false a1, decide_eq_true a2, rs_r19_Valid, Bool.not_eq_true', Bool.not_eq_false', go_sem, eq_self, Nat.reduceEqDiff, Nat.reduceBEq, Nat.reduceAdd, Nat.reduceLeDiff, reduceIte, reduceCtorEq, tysA, tyA, Ty.enc, Ty.encs])
      | (refine ⟨fun h => ?_, fun h => ?_⟩ <;> first | (cases h; done) | (simp -implicitDefEqProofs only [h]; done) | (try simp -implicitDefEqProofs only [h]))
      | fail))
      have : vaB x.1 = false := by simp [vaB]; omega
      simp [validP, hok, this]
    have hva : vaB x.1 = true := by simp [vaB]; omega
    cases hz : (x.2 == 0) with
    | true =>
      (repeat' (first
      | refine Run.seq ?_
      | refine Run.skip ?_
      | refine Run.block ?_
      | refine Run.blk ?_
      | refine Run.scope ?_
      | refine Run.scp ?_
      | (refine Run.exit rfl ?_)
      | (refine Run.reg mixed ?_; simp -implicitDefEqProofs only [lt_t hlt, hx', decide_eq_false a1, decide_eq_false a2, hz, rs_r19_Valid, Bool.not_eq_true', Bool.not_eq_false', go_sem, eq_self, Nat.reduceEqDiff, Nat.reduceBEq, Nat.reduceAdd, Nat.reduceLeDiff, reduceIte, reduceCtorEq, tysA, tyA, Ty.enc, Ty.encs])
      | (refine Run.condM ?_; simp -implicitDefEqProofs only [lt_t hlt, hx', decide_eq_false a1, decide_eq_false a2, hz, rs_r19_Valid, Bool.not_eq_true', Bool.not_eq_false', go_sem, eq_self, Nat.reduceEqDiff, Nat.reduceBEq, Nat.reduceAdd, Nat.reduceLeDiff, reduceIte, reduceCtorEq, tysA, tyA, Ty.enc, Ty.encs])
      | (refine Run.retP g_r19_Valid (Heap.le_refl _) ?_; simp -implicitDefEqProofs only [rs_r19_Valid, lt_t hlt, hx', decide_eq_false a1, decide_eq_false a2, hz, go_sem, eq_self, Nat.reduceEqDiff, Nat.reduceBEq, Nat.reduceAdd, Nat.reduceLeDiff, reduceIte, reduceCtorEq, tysA, tyA, Ty.enc, Ty.encs])
      | (refine xo_gs rfl (fun h => ?_) (fun h => ?_) <;> first | (cases h; done) | simp -implicitDefEqProofs only [lt_t hlt, hx', decide_eq_false a1, decide_eq_false a2, hz, rs_r19_Valid, Bool.not_eq_true', Bool.not_eq_false', go_sem, eq_self, Nat.reduceEqDiff, Nat.reduceBEq, Nat.reduceAdd, Nat.reduceLeDiff, reduceIte, reduceCtorEq, tysA, tyA, Ty.enc, Ty.encs])
      | (refine ⟨fun h => ?_, fun h => ?_⟩ <;> first | (cases h; done) | (simp -implicitDefEqProofs only [h]; done) | (try simp -implicitDefEqProofs only [h]))
      | fail))
      simp [validP, hok, hz]
    | false =>
    by_cases a3 : x.2 < -1048576
    · (repeat' (first
      | refine Run.seq ?_
      | refine Run.skip ?_
      | refine Run.block ?_
      | refine Run.blk ?_
      | refine Run.scope ?_
      | refine Run.scp ?_
      | (refine Run.exit rfl ?_)
      | (refine Run.reg mixed ?_; simp -implicitDefEqProofs only [lt_t hlt, hx', decide_eq_false a1, decide_eq_false a2, hz, decide_eq_true a3, rs_r19_Valid, Bool.not_eq_true', Bool.not_eq_false', go_sem, eq_self, Nat.reduceEqDiff, Nat.reduceBEq, Nat.reduceAdd, Nat.reduceLeDiff, reduceIte, reduceCtorEq, tysA, tyA, Ty.enc, Ty.encs])
      | (refine Run.condM ?_; simp -implicitDefEqProofs only [lt_t hlt, hx', decide_eq_false a1, decide_eq_false a2, hz, decide_eq_true a3, rs_r19_Valid, Bool.not_eq_true', Bool.not_eq_false', go_sem, eq_self, Nat.reduceEqDiff, Nat.reduceBEq, Nat.reduceAdd, Nat.reduceLeDiff, reduceIte, reduceCtorEq, tysA, tyA, Ty.enc, Ty.encs])
      | (refine Run.retP g_r19_Valid (Heap.le_refl _) ?_; simp -implicitDefEqProofs only [rs_r19_Valid, lt_t hlt, hx', decide_eq_false a1, decide_eq_false a2, hz, decide_eq_true a3, go_sem, eq_self, Nat.reduceEqDiff, Nat.reduceBEq, Nat.reduceAdd, Nat.reduceLeDiff, reduceIte, reduceCtorEq, tysA, tyA, Ty.enc, Ty.encs])
      | (refine xo_gs rfl (fun h => ?_) (fun h => ?_) <;> first | (cases h; done) | simp -implicitDefEqProofs only [lt_t hlt, hx', decide_eq_false a1, decide_eq_false a2, hz, decide_eq_true a3, rs_r19_Valid, Bool.not_eq_true', Bool.not_eq_false', go_sem, eq_self, Nat.reduceEqDiff, Nat.reduceBEq, Nat.reduceAdd, Nat.reduceLeDiff, reduceIte, reduceCtorEq, tysA, tyA, Ty.enc, Ty.encs])
      | (refine ⟨fun h => ?_, fun h => ?_⟩ <;> first | (cases h; done) | (simp -implicitDefEqProofs only [h]; done) | (try simp -implicitDefEqProofs only [h]))
      | fail))
      have : smB x.2 = false := by simp [smB]; omega
      simp [validP, hok, this]
    by_cases a4 : 1048576 < x.2
    · (repeat' (first
      | refine Run.seq ?_
      | refine Run.skip ?_
      | refine Run.block ?_
      | refine Run.blk ?_
      | refine Run.scope ?_
      | refine Run.scp ?_
      | (refine Run.exit rfl ?_)
      | (refine Run.reg mixed ?_; simp -implicitDefEqProofs only [lt_t hlt, hx', decide_eq_false a1, decide_eq_false a2, hz, decide_eq_false a3, decide_eq_true a4, rs_r19_Valid, Bool.not_eq_true', Bool.not_eq_false', go_sem, eq_self, Nat.reduceEqDiff, Nat.reduceBEq, Nat.reduceAdd, Nat.reduceLeDiff, reduceIte, reduceCtorEq, tysA, tyA, Ty.enc, Ty.encs])
      | (refine Run.condM ?_; simp -implicitDefEqProofs only [lt_t hlt, hx', decide_eq_false a1, decide_eq_false a2, hz, decide_eq_false a3, decide_eq_true a4, rs_r19_Valid, Bool.not_eq_true', Bool.not_eq_false', go_sem, eq_self, Nat.reduceEqDiff, Nat.reduceBEq, Nat.reduceAdd, Nat.reduceLeDiff, reduceIte, reduceCtorEq, tysA, tyA, Ty.enc, Ty.encs])
      | (refine Run.retP g_r19_Valid (Heap.le_refl _) ?_; simp -implicitDefEqProofs only [rs_r19_Valid, lt_t hlt, hx', decide_eq_false a1, decide_eq_false a2, hz, decide_eq_false a3, decide_eq_true a4, go_sem, eq_self, Nat.reduceEqDiff, Nat.reduceBEq, Nat.reduceAdd, Nat.reduceLeDiff, reduceIte, reduceCtorEq, tysA, tyA, Ty.enc, Ty.encs])
      | (refine xo_gs rfl (fun h => ?_) (fun h => ?_) <;> first | (cases h; done) | simp -implicitDefEqProofs only [lt_t hlt, hx', decide_eq_false a1, decide_eq_false a2, hz, decide_eq_false a3, decide_eq_true a4, rs_r19_Valid, Bool.not_eq_true', Bool.not_eq_false', go_sem, eq_self, Nat.reduceEqDiff, Nat.reduceBEq, Nat.reduceAdd, Nat.reduceLeDiff, reduceIte, reduceCtorEq, tysA, tyA, Ty.enc, Ty.encs])
      | (refine ⟨fun h => ?_, fun h => ?_⟩ <;> first | (cases h; done) | (simp -implicitDefEqProofs only [h]; done) | (try simp -implicitDefEqProofs only [h]))
      | fail))
      have : smB x.2 = false := by simp [smB]; omega
      simp [validP, hok, this]
    have hsm : smB x.2 = true := by simp [smB]; omega
    simp only [hva, hz, hsm, Bool.not_false, Bool.true_and] at hok
    rcases Nat.eq_zero_or_pos i with h0 | h0
    · have hpos : decide ((0 : Int) < (i : Int)) = false := by simp; omega
      (repeat' (first
      | refine Run.seq ?_
      | refine Run.skip ?_
      | refine Run.block ?_
      | refine Run.blk ?_
      | refine Run.scope ?_
      | refine Run.scp ?_
      | (refine Run.exit rfl ?_)
      | (refine Run.reg mixed ?_; simp -implicitDefEqProofs only [lt_t hlt, hx', decide_eq_false a1, decide_eq_false a2, hz, decide_eq_false a3, decide_eq_false a4, hw1, hpos, rs_r19_Valid, Bool.not_eq_true', Bool.not_eq_false', go_sem, eq_self, Nat.reduceEqDiff, Nat.reduceBEq, Nat.reduceAdd, Nat.reduceLeDiff, reduceIte, reduceCtorEq, tysA, tyA, Ty.enc, Ty.encs])
      | (refine Run.condM ?_; simp -implicitDefEqProofs only [lt_t hlt, hx', decide_eq_false a1, decide_eq_false a2, hz, decide_eq_false a3, decide_eq_false a4, hw1, hpos, rs_r19_Valid, Bool.not_eq_true', Bool.not_eq_false', go_sem, eq_self, Nat.reduceEqDiff, Nat.reduceBEq, Nat.reduceAdd, Nat.reduceLeDiff, reduceIte, reduceCtorEq, tysA, tyA, Ty.enc, Ty.encs])
      | (refine Run.retP g_r19_Valid (Heap.le_refl _) ?_; simp -implicitDefEqProofs only [rs_r19_Valid, lt_t hlt, hx', decide_eq_false a1, decide_eq_false a2, hz, decide_eq_false a3, decide_eq_false a4, hw1, hpos, go_sem, eq_self, Nat.reduceEqDiff, Nat.reduceBEq, Nat.reduceAdd, Nat.reduceLeDiff, reduceIte, reduceCtorEq, tysA, tyA, Ty.enc, Ty.encs])
      | (refine xo_gs rfl (fun h => ?_) (fun h => ?_) <;> first | (cases h; done) | simp -implicitDefEqProofs only [lt_t hlt, hx', decide_eq_false a1, decide_eq_false a2, hz, decide_eq_false a3, decide_eq_false a4, hw1, hpos, rs_r19_Valid, Bool.not_eq_true', Bool.not_eq_false', go_sem, eq_self, Nat.reduceEqDiff, Nat.reduceBEq, Nat.reduceAdd, Nat.reduceLeDiff, reduceIte, reduceCtorEq, tysA, tyA, Ty.enc, Ty.encs])
      | (refine ⟨fun h => ?_, fun h => ?_⟩ <;> first | (cases h; done) | (simp -implicitDefEqProofs only [h]; done) | (try simp -implicitDefEqProofs only [h]))
      | fail))
      refine ih (i + 1) ⟨by omega, ?_⟩ (by omega)
      rw [hok, h0]
      rw [h0] at hx
      simp [pvAt, pvOk, hx]
    · obtain ⟨j, hj⟩ : ∃ j, i = j + 1 := ⟨i - 1, by omega⟩
      obtain ⟨y, hy⟩ := ex_at (show j < ts.length by omega)
      have hy' := tm_at hy
      have hpos : decide ((0 : Int) < (i : Int)) = true := by simp; omega
      have hsub : IntKind.i64.wrap ((i : Int) - 1) = (j : Int) := by
        rw [wrap_pos (by omega) (by omega)]; omega
      by_cases hp : y.1 < x.1
      · have hp' : decide (x.1 ≤ y.1) = false := by simpa using hp
        (repeat' (first
      | refine Run.seq ?_
      | refine Run.skip ?_
      | refine Run.block ?_
      | refine Run.blk ?_
      | refine Run.scope ?_
      | refine Run.scp ?_
      | (refine Run.exit rfl ?_)
      | (refine Run.reg mixed ?_; simp -implicitDefEqProofs only [lt_t hlt, hx', hy', decide_eq_false a1, decide_eq_false a2, hz, decide_eq_false a3, decide_eq_false a4, hw1, hpos, hsub, hp', rs_r19_Valid, Bool.not_eq_true', Bool.not_eq_false', go_sem, eq_self, Nat.reduceEqDiff, Nat.reduceBEq, Nat.reduceAdd, Nat.reduceLeDiff, reduceIte, reduceCtorEq, tysA, tyA, Ty.enc, Ty.encs])
      | (refine Run.condM ?_; simp -implicitDefEqProofs only [lt_t hlt, hx', hy', decide_eq_false a1, decide_eq_false a2, hz, decide_eq_false a3, decide_eq_false a4, hw1, hpos, hsub, hp', rs_r19_Valid, Bool.not_eq_true', Bool.not_eq_false', go_sem, eq_self, Nat.reduceEqDiff, Nat.reduceBEq, Nat.reduceAdd, Nat.reduceLeDiff, reduceIte, reduceCtorEq, tysA, tyA, Ty.enc, Ty.encs])
      | (refine Run.retP g_r19_Valid (Heap.le_refl _) ?_; simp -implicitDefEqProofs only [rs_r19_Valid, lt_t hlt, hx', hy', decide_eq_false a1, decide_eq_false a2, hz, decide_eq_false a3, decide_eq_false a4, hw1, hpos, hsub, hp', go_sem, eq_self, Nat.reduceEqDiff, Nat.reduceBEq, Nat.reduceAdd, Nat.reduceLeDiff, reduceIte, reduceCtorEq, tysA, tyA, Ty.enc, Ty.encs])
      | (refine xo_gs rfl (fun h => ?_) (fun h => ?_) <;> first | (cases h; done) | simp -implicitDefEqProofs only [lt_t hlt, hx', hy', decide_eq_false a1, decide_eq_false a2, hz, decide_eq_false a3, decide_eq_false a4, hw1, hpos, hsub, hp', rs_r19_Valid, Bool.not_eq_true', Bool.not_eq_false', go_sem, eq_self, Nat.reduceEqDiff, Nat.reduceBEq, Nat.reduceAdd, Nat.reduceLeDiff, reduceIte, reduceCtorEq, tysA, tyA, Ty.enc, Ty.encs])
      | (refine ⟨fun h => ?_, fun h => ?_⟩ <;> first | (cases h; done) | (simp -implicitDefEqProofs only [h]; done) | (try simp -implicitDefEqProofs only [h]))
      | fail))
        refine ih (i + 1) ⟨by omega, ?_⟩ (by omega)
        rw [hok, hj]
        rw [hj] at hx
        simp [pvAt, pvOk, hx, hy, hp]
      · have hp' : decide (x.1 ≤ y.1) = true := by simp; omega
        (repeat' (first
      | refine Run.seq ?_
      | refine Run.skip ?_
      | refine Run.block ?_
      | refine Run.blk ?_
      | refine Run.scope ?_
      | refine Run.scp ?_
      | (refine Run.exit rfl ?_)
      | (refine Run.reg mixed ?_; simp -implicitDefEqProofs only [lt_t hlt, hx', hy', decide_eq_false a1, decide_eq_false a2, hz, decide_eq_false a3, decide_eq_false a4, hw1, hpos, hsub, hp', rs_r19_Valid, Bool.not_eq_true', Bool.not_eq_false', go_sem, eq_self, Nat.reduceEqDiff, Nat.reduceBEq, Nat.reduceAdd, Nat.reduceLeDiff, reduceIte, reduceCtorEq, tysA, tyA, Ty.enc, Ty.encs])
      | (refine Run.condM ?_; simp -implicitDefEqProofs only [lt_t hlt, hx', hy', decide_eq_false a1, decide_eq_false a2, hz, decide_eq_false a3, decide_eq_false a4, hw1, hpos, hsub, hp', rs_r19_Valid, Bool.not_eq_true', Bool.not_eq_false', go_sem, eq_self, Nat.reduceEqDiff, Nat.reduceBEq, Nat.reduceAdd, Nat.reduceLeDiff, reduceIte, reduceCtorEq, tysA, tyA, Ty.enc, Ty.encs])
      | (refine Run.retP g_r19_Valid (Heap.le_refl _) ?_; simp -implicitDefEqProofs only [rs_r19_Valid, lt_t hlt, hx', hy', decide_eq_false a1, decide_eq_false a2, hz, decide_eq_false a3, decide_eq_false a4, hw1, hpos, hsub, hp', go_sem, eq_self, Nat.reduceEqDiff, Nat.reduceBEq, Nat.reduceAdd, Nat.reduceLeDiff, reduceIte, reduceCtorEq, tysA, tyA, Ty.enc, Ty.encs])
      | (refine xo_gs rfl (fun h => ?_) (fun h => ?_) <;> first | (cases h; done) | simp -implicitDefEqProofs only [lt_t hlt, hx', hy', decide_eq_false a1, decide_eq_false a2, hz, decide_eq_false a3, decide_eq_false a4, hw1, hpos, hsub, hp', rs_r19_Valid, Bool.not_eq_true', Bool.not_eq_false', go_sem, eq_self, Nat.reduceEqDiff, Nat.reduceBEq, Nat.reduceAdd, Nat.reduceLeDiff, reduceIte, reduceCtorEq, tysA, tyA, Ty.enc, Ty.encs])
      | (refine ⟨fun h => ?_, fun h => ?_⟩ <;> first | (cases h; done) | (simp -implicitDefEqProofs only [h]; done) | (try simp -implicitDefEqProofs only [h]))
      | fail))
        rw [hj] at hok
        simp [validP, hok, pvAt, pvOk, hy, hp]
  · have hge : i = ts.length := by omega
    (repeat' (first
      | refine Run.seq ?_
      | refine Run.skip ?_
      | refine Run.block ?_
      | refine Run.blk ?_
      | refine Run.scope ?_
      | refine Run.scp ?_
      | (refine Run.exit rfl ?_)
      | (refine Run.reg mixed ?_; simp -implicitDefEqProofs only [lt_f hlt, rs_r19_Valid, Bool.not_eq_true', Bool.not_eq_false', go_sem, eq_self, Nat.reduceEqDiff, Nat.reduceBEq, Nat.reduceAdd, Nat.reduceLeDiff, reduceIte, reduceCtorEq, tysA, tyA, Ty.enc, Ty.encs])
      | (refine Run.condM ?_; simp -implicitDefEqProofs only [lt_f hlt, rs_r19_Valid, Bool.not_eq_true', Bool.not_eq_false', go_sem, eq_self, Nat.reduceEqDiff, Nat.reduceBEq, Nat.reduceAdd, Nat.reduceLeDiff, reduceIte, reduceCtorEq, tysA, tyA, Ty.enc, Ty.encs])
      | (refine Run.retP g_r19_Valid (Heap.le_refl _) ?_; simp -implicitDefEqProofs only [rs_r19_Valid, lt_f hlt, go_sem, eq_self, Nat.reduceEqDiff, Nat.reduceBEq, Nat.reduceAdd, Nat.reduceLeDiff, reduceIte, reduceCtorEq, tysA, tyA, Ty.enc, Ty.encs])
      | (refine xo_gs rfl (fun h => ?_) (fun h => ?_) <;> first | (cases h; done) | simp -implicitDefEqProofs only [lt_f hlt, rs_r19_Valid, Bool.not_eq_true', Bool.not_eq_false', go_sem, eq_self, Nat.reduceEqDiff, Nat.reduceBEq, Nat.reduceAdd, Nat.reduceLeDiff, reduceIte, reduceCtorEq, tysA, tyA, Ty.enc, Ty.encs])
      | (refine ⟨fun h => ?_, fun h => ?_⟩ <;> first | (cases h; done) | (simp -implicitDefEqProofs only [h]; done) | (try simp -implicitDefEqProofs only [h]))
      | fail))
    rw [hge, List.drop_length] at hok
    simp [validP, hc, hl, hok, okTs]
end Go.Ab

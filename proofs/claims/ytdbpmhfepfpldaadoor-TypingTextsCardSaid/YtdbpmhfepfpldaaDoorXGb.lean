/- Equal forms; small lists of forms. Conditions: none. -/
import Derived.Test.YtdbpmhfepfpldaaDoorXGa
set_option linter.unusedSimpArgs false
set_option linter.unusedVariables false
namespace Go.Ab
open Go.Proofs

def sameL (l m : Ln) : Bool := l.c == m.c && (l.ts == m.ts)
theorem sameL_iff (l m : Ln) : sameL l m = true ↔ l = m := by
  obtain ⟨a, b⟩ := l
  obtain ⟨c, d⟩ := m
  simp [sameL]
theorem neNat (a b : Nat) : ((a : Int) != (b : Int)) = (a != b) := by
  rw [Bool.eq_iff_iff]; simp; omega

theorem keep_SameLin_ok (l m : Ln) (σ : Heap) : ACalls Tryd.prog 17 [linA l, linA m] σ (fun v σ' => v = .d (.bool (sameL l m)) ∧ σ' = σ) := by
  obtain ⟨c, ts⟩ := l
  obtain ⟨d, us⟩ := m
  refine i_keep_SameLin (by simp) ?_
  rw [argF_2, linA, linA]
  cases hc : (c != d) with
  | true =>
    (repeat' (first
      | refine Run.seq ?_
      | refine Run.skip ?_
      | refine Run.block ?_
      | refine Run.blk ?_
      | refine Run.scope ?_
      | refine Run.scp ?_
      | (refine Run.exit rfl ?_)
      | (refine Run.reg mixed ?_; simp -implicitDefEqProofs only [hc, rs_keep_SameLin, Bool.not_eq_true', Bool.not_eq_false', go_sem, eq_self, Nat.reduceEqDiff, Nat.reduceBEq, Nat.reduceAdd, Nat.reduceLeDiff, reduceIte, reduceCtorEq, tysA, tyA, Ty.enc, Ty.encs])
      | (refine Run.condM ?_; simp -implicitDefEqProofs only [hc, rs_keep_SameLin, Bool.not_eq_true', Bool.not_eq_false', go_sem, eq_self, Nat.reduceEqDiff, Nat.reduceBEq, Nat.reduceAdd, Nat.reduceLeDiff, reduceIte, reduceCtorEq, tysA, tyA, Ty.enc, Ty.encs])
      | (refine Run.retP g_keep_SameLin (Heap.le_refl _) ?_; simp -implicitDefEqProofs only [rs_keep_SameLin, hc, go_sem, eq_self, Nat.reduceEqDiff, Nat.reduceBEq, Nat.reduceAdd, Nat.reduceLeDiff, reduceIte, reduceCtorEq, tysA, tyA, Ty.enc, Ty.encs])
      | (refine xo_gs rfl (fun h => ?_) (fun h => ?_) <;> first | (cases h; done) | simp -implicitDefEqProofs only [hc, rs_keep_SameLin, Bool.not_eq_true', Bool.not_eq_false', go_sem, eq_self, Nat.reduceEqDiff, Nat.reduceBEq, Nat.reduceAdd, Nat.reduceLeDiff, reduceIte, reduceCtorEq, tysA, tyA, Ty.enc, Ty.encs])
      | (refine ⟨fun h => ?_, fun h => ?_⟩ <;> first | (cases h; done) | (simp -implicitDefEqProofs only [h]; done) | (try simp -implicitDefEqProofs only [h]))
      | fail))
    have : (c == d) = false := by simpa using hc
    simp [sameL, this]
  | false =>
  cases hn : (ts.length != us.length) with
  | true =>
    (repeat' (first
      | refine Run.seq ?_
      | refine Run.skip ?_
      | refine Run.block ?_
      | refine Run.blk ?_
      | refine Run.scope ?_
      | refine Run.scp ?_
      | (refine Run.exit rfl ?_)
      | (refine Run.reg mixed ?_; simp -implicitDefEqProofs only [hc, List.length_map, neNat, hn, rs_keep_SameLin, Bool.not_eq_true', Bool.not_eq_false', go_sem, eq_self, Nat.reduceEqDiff, Nat.reduceBEq, Nat.reduceAdd, Nat.reduceLeDiff, reduceIte, reduceCtorEq, tysA, tyA, Ty.enc, Ty.encs])
      | (refine Run.condM ?_; simp -implicitDefEqProofs only [hc, List.length_map, neNat, hn, rs_keep_SameLin, Bool.not_eq_true', Bool.not_eq_false', go_sem, eq_self, Nat.reduceEqDiff, Nat.reduceBEq, Nat.reduceAdd, Nat.reduceLeDiff, reduceIte, reduceCtorEq, tysA, tyA, Ty.enc, Ty.encs])
      | (refine Run.retP g_keep_SameLin (Heap.le_refl _) ?_; simp -implicitDefEqProofs only [rs_keep_SameLin, hc, List.length_map, neNat, hn, go_sem, eq_self, Nat.reduceEqDiff, Nat.reduceBEq, Nat.reduceAdd, Nat.reduceLeDiff, reduceIte, reduceCtorEq, tysA, tyA, Ty.enc, Ty.encs])
      | (refine xo_gs rfl (fun h => ?_) (fun h => ?_) <;> first | (cases h; done) | simp -implicitDefEqProofs only [hc, List.length_map, neNat, hn, rs_keep_SameLin, Bool.not_eq_true', Bool.not_eq_false', go_sem, eq_self, Nat.reduceEqDiff, Nat.reduceBEq, Nat.reduceAdd, Nat.reduceLeDiff, reduceIte, reduceCtorEq, tysA, tyA, Ty.enc, Ty.encs])
      | (refine ⟨fun h => ?_, fun h => ?_⟩ <;> first | (cases h; done) | (simp -implicitDefEqProofs only [h]; done) | (try simp -implicitDefEqProofs only [h]))
      | fail))
    have : (ts == us) = false := by
      simp only [bne_iff_ne, ne_eq] at hn
      simp only [beq_eq_false_iff_ne, ne_eq]
      intro e; exact hn (by rw [e])
    simp [sameL, this]
  | false =>
  have hn' : ts.length = us.length := by simpa using hn
  have hc' : c = d := by simpa using hc
  (repeat' (first
      | refine Run.seq ?_
      | refine Run.skip ?_
      | refine Run.block ?_
      | refine Run.blk ?_
      | refine Run.scope ?_
      | refine Run.scp ?_
      | (refine Run.exit rfl ?_)
      | (refine Run.reg mixed ?_; simp -implicitDefEqProofs only [hc, List.length_map, neNat, hn, rs_keep_SameLin, Bool.not_eq_true', Bool.not_eq_false', go_sem, eq_self, Nat.reduceEqDiff, Nat.reduceBEq, Nat.reduceAdd, Nat.reduceLeDiff, reduceIte, reduceCtorEq, tysA, tyA, Ty.enc, Ty.encs])
      | (refine Run.condM ?_; simp -implicitDefEqProofs only [hc, List.length_map, neNat, hn, rs_keep_SameLin, Bool.not_eq_true', Bool.not_eq_false', go_sem, eq_self, Nat.reduceEqDiff, Nat.reduceBEq, Nat.reduceAdd, Nat.reduceLeDiff, reduceIte, reduceCtorEq, tysA, tyA, Ty.enc, Ty.encs])
      | (refine Run.retP g_keep_SameLin (Heap.le_refl _) ?_; simp -implicitDefEqProofs only [rs_keep_SameLin, hc, List.length_map, neNat, hn, go_sem, eq_self, Nat.reduceEqDiff, Nat.reduceBEq, Nat.reduceAdd, Nat.reduceLeDiff, reduceIte, reduceCtorEq, tysA, tyA, Ty.enc, Ty.encs])
      | (refine xo_gs rfl (fun h => ?_) (fun h => ?_) <;> first | (cases h; done) | simp -implicitDefEqProofs only [hc, List.length_map, neNat, hn, rs_keep_SameLin, Bool.not_eq_true', Bool.not_eq_false', go_sem, eq_self, Nat.reduceEqDiff, Nat.reduceBEq, Nat.reduceAdd, Nat.reduceLeDiff, reduceIte, reduceCtorEq, tysA, tyA, Ty.enc, Ty.encs])
      | (refine ⟨fun h => ?_, fun h => ?_⟩ <;> first | (cases h; done) | (simp -implicitDefEqProofs only [h]; done) | (try simp -implicitDefEqProofs only [h]))
      | fail))
  refine Run.loopA ?_
  refine Run.loopI ((fun (a2 : AV) (a3 : AV) (a22 : AV) => fun (i : Nat) => put 2 a2 (put 3 a3 (put 22 a22 (put 23 (.d (.int .i64 i)) U)))) _ _ _) (fun _ => putL 2 [.d (.int .i64 c), .d (.sl (ts.map tmR))] (putL 3 [.d (.int .i64 d), .d (.sl (us.map tmR))] E)) (fun _ => σ) (fun i => i ≤ ts.length ∧ ts.take i = us.take i) (fun i => ts.length - i) ?_ 0 ⟨by simp, by simp⟩
  rintro i ⟨hi, hok⟩ ih
  by_cases hlt : i < ts.length
  · obtain ⟨x, hx⟩ := ex_at hlt
    obtain ⟨y, hy⟩ := ex_at (show i < us.length by omega)
    have hlen : ts.length ≤ 9223372036854775807 ∨ 9223372036854775807 < ts.length := by omega
    have hx' := tm_at hx
    have hy' := tm_at hy
    refine Run.cell 2 1 rfl rfl (fun hb => ?_)
    simp only [AV.lenOk, List.length_map] at hb
    have hw1 : IntKind.i64.wrap ((i : Int) + 1) = ((i + 1 : Nat) : Int) := by rw [wrap_pos (by omega) (by omega)]; omega
    cases he : (x.1 == y.1 && (x.2 == y.2)) with
    | true =>
      (repeat' (first
      | refine Run.seq ?_
      | refine Run.skip ?_
      | refine Run.block ?_
      | refine Run.blk ?_
      | refine Run.scope ?_
      | refine Run.scp ?_
      | (refine Run.exit rfl ?_)
      | (refine Run.reg mixed ?_; simp -implicitDefEqProofs only [lt_t hlt, hx', hy', hw1, he, Bool.and_true, rs_keep_SameLin, Bool.not_eq_true', Bool.not_eq_false', go_sem, eq_self, Nat.reduceEqDiff, Nat.reduceBEq, Nat.reduceAdd, Nat.reduceLeDiff, reduceIte, reduceCtorEq, tysA, tyA, Ty.enc, Ty.encs])
      | (refine Run.condM ?_; simp -implicitDefEqProofs only [lt_t hlt, hx', hy', hw1, he, Bool.and_true, rs_keep_SameLin, Bool.not_eq_true', Bool.not_eq_false', go_sem, eq_self, Nat.reduceEqDiff, Nat.reduceBEq, Nat.reduceAdd, Nat.reduceLeDiff, reduceIte, reduceCtorEq, tysA, tyA, Ty.enc, Ty.encs])
      | (refine Run.retP g_keep_SameLin (Heap.le_refl _) ?_; simp -implicitDefEqProofs only [rs_keep_SameLin, lt_t hlt, hx', hy', hw1, he, Bool.and_true, go_sem, eq_self, Nat.reduceEqDiff, Nat.reduceBEq, Nat.reduceAdd, Nat.reduceLeDiff, reduceIte, reduceCtorEq, tysA, tyA, Ty.enc, Ty.encs])
      | (refine xo_gs rfl (fun h => ?_) (fun h => ?_) <;> first | (cases h; done) | simp -implicitDefEqProofs only [lt_t hlt, hx', hy', hw1, he, Bool.and_true, rs_keep_SameLin, Bool.not_eq_true', Bool.not_eq_false', go_sem, eq_self, Nat.reduceEqDiff, Nat.reduceBEq, Nat.reduceAdd, Nat.reduceLeDiff, reduceIte, reduceCtorEq, tysA, tyA, Ty.enc, Ty.encs])
      | (refine ⟨fun h => ?_, fun h => ?_⟩ <;> first | (cases h; done) | (simp -implicitDefEqProofs only [h]; done) | (try simp -implicitDefEqProofs only [h]))
      | fail))
      refine ih (i + 1) ⟨by omega, ?_⟩ (by omega)
      simp only [Bool.and_eq_true, beq_iff_eq] at he
      rw [List.take_add_one, List.take_add_one, hok, hx, hy, Prod.ext he.1 he.2]
    | false =>
      (repeat' (first
      | refine Run.seq ?_
      | refine Run.skip ?_
      | refine Run.block ?_
      | refine Run.blk ?_
      | refine Run.scope ?_
      | refine Run.scp ?_
      | (refine Run.exit rfl ?_)
      | (refine Run.reg mixed ?_; simp -implicitDefEqProofs only [lt_t hlt, hx', hy', hw1, he, Bool.and_true, rs_keep_SameLin, Bool.not_eq_true', Bool.not_eq_false', go_sem, eq_self, Nat.reduceEqDiff, Nat.reduceBEq, Nat.reduceAdd, Nat.reduceLeDiff, reduceIte, reduceCtorEq, tysA, tyA, Ty.enc, Ty.encs])
      | (refine Run.condM ?_; simp -implicitDefEqProofs only [lt_t hlt, hx', hy', hw1, he, Bool.and_true, rs_keep_SameLin, Bool.not_eq_true', Bool.not_eq_false', go_sem, eq_self, Nat.reduceEqDiff, Nat.reduceBEq, Nat.reduceAdd, Nat.reduceLeDiff, reduceIte, reduceCtorEq, tysA, tyA, Ty.enc, Ty.encs])
      | (refine Run.retP g_keep_SameLin (Heap.le_refl _) ?_; simp -implicitDefEqProofs only [rs_keep_SameLin, lt_t hlt, hx', hy', hw1, he, Bool.and_true, go_sem, eq_self, Nat.reduceEqDiff, Nat.reduceBEq, Nat.reduceAdd, Nat.reduceLeDiff, reduceIte, reduceCtorEq, tysA, tyA, Ty.enc, Ty.encs])
      | (refine xo_gs rfl (fun h => ?_) (fun h => ?_) <;> first | (cases h; done) | simp -implicitDefEqProofs only [lt_t hlt, hx', hy', hw1, he, Bool.and_true, rs_keep_SameLin, Bool.not_eq_true', Bool.not_eq_false', go_sem, eq_self, Nat.reduceEqDiff, Nat.reduceBEq, Nat.reduceAdd, Nat.reduceLeDiff, reduceIte, reduceCtorEq, tysA, tyA, Ty.enc, Ty.encs])
      | (refine ⟨fun h => ?_, fun h => ?_⟩ <;> first | (cases h; done) | (simp -implicitDefEqProofs only [h]; done) | (try simp -implicitDefEqProofs only [h]))
      | fail))
      have : (ts == us) = false := by
        simp only [beq_eq_false_iff_ne, ne_eq]
        intro e
        rw [e] at hx
        rw [hx] at hy; cases hy
        simp at he
      simp [sameL, this]
  · (repeat' (first
      | refine Run.seq ?_
      | refine Run.skip ?_
      | refine Run.block ?_
      | refine Run.blk ?_
      | refine Run.scope ?_
      | refine Run.scp ?_
      | (refine Run.exit rfl ?_)
      | (refine Run.reg mixed ?_; simp -implicitDefEqProofs only [lt_f hlt, rs_keep_SameLin, Bool.not_eq_true', Bool.not_eq_false', go_sem, eq_self, Nat.reduceEqDiff, Nat.reduceBEq, Nat.reduceAdd, Nat.reduceLeDiff, reduceIte, reduceCtorEq, tysA, tyA, Ty.enc, Ty.encs])
      | (refine Run.condM ?_; simp -implicitDefEqProofs only [lt_f hlt, rs_keep_SameLin, Bool.not_eq_true', Bool.not_eq_false', go_sem, eq_self, Nat.reduceEqDiff, Nat.reduceBEq, Nat.reduceAdd, Nat.reduceLeDiff, reduceIte, reduceCtorEq, tysA, tyA, Ty.enc, Ty.encs])
      | (refine Run.retP g_keep_SameLin (Heap.le_refl _) ?_; simp -implicitDefEqProofs only [rs_keep_SameLin, lt_f hlt, go_sem, eq_self, Nat.reduceEqDiff, Nat.reduceBEq, Nat.reduceAdd, Nat.reduceLeDiff, reduceIte, reduceCtorEq, tysA, tyA, Ty.enc, Ty.encs])
      | (refine xo_gs rfl (fun h => ?_) (fun h => ?_) <;> first | (cases h; done) | simp -implicitDefEqProofs only [lt_f hlt, rs_keep_SameLin, Bool.not_eq_true', Bool.not_eq_false', go_sem, eq_self, Nat.reduceEqDiff, Nat.reduceBEq, Nat.reduceAdd, Nat.reduceLeDiff, reduceIte, reduceCtorEq, tysA, tyA, Ty.enc, Ty.encs])
      | (refine ⟨fun h => ?_, fun h => ?_⟩ <;> first | (cases h; done) | (simp -implicitDefEqProofs only [h]; done) | (try simp -implicitDefEqProofs only [h]))
      | fail))
    rw [List.take_of_length_le (by omega), List.take_of_length_le (by omega)] at hok
    simp [sameL, hok, hc']

def linsA (l : List Ln) : AV := .d (.sl (l.map Ln.enc))
def smallL (l : List Ln) : Bool := (l.take 9).all (fun x => decide (x.ts.length ≤ 70)) && decide (l.length ≤ 8)
theorem lin_at {l : List Ln} {i : Nat} {x : Ln} (h : l[i]? = some x) : (l.map Ln.enc)[i]? = some [.int .i64 x.c, .sl (x.ts.map tmR)] := by
  rw [List.getElem?_map, h]; rfl
theorem le8 (n : Nat) : decide ((n : Int) ≤ 8) = decide (n ≤ 8) := decide_eq_decide.2 (by omega)
theorem lt9 (n : Nat) : decide ((n : Int) < 9) = decide (n < 9) := decide_eq_decide.2 (by omega)

theorem law19_small_ok (l : List Ln) (σ : Heap) : ACalls Tryd.prog 23 [linsA l] σ (fun v σ' => v = .d (.bool (smallL l)) ∧ σ' = σ) := by
  refine i_law19_small (by simp) ?_
  rw [argF_1, linsA]
  (repeat' (first
      | refine Run.seq ?_
      | refine Run.skip ?_
      | refine Run.block ?_
      | refine Run.blk ?_
      | refine Run.scope ?_
      | refine Run.scp ?_
      | (refine Run.exit rfl ?_)
      | (refine Run.reg mixed ?_; simp -implicitDefEqProofs only [rs_law19_small, Bool.not_eq_true', Bool.not_eq_false', go_sem, eq_self, Nat.reduceEqDiff, Nat.reduceBEq, Nat.reduceAdd, Nat.reduceLeDiff, reduceIte, reduceCtorEq, tysA, tyA, Ty.enc, Ty.encs])
      | (refine Run.condM ?_; simp -implicitDefEqProofs only [rs_law19_small, Bool.not_eq_true', Bool.not_eq_false', go_sem, eq_self, Nat.reduceEqDiff, Nat.reduceBEq, Nat.reduceAdd, Nat.reduceLeDiff, reduceIte, reduceCtorEq, tysA, tyA, Ty.enc, Ty.encs])
      | (refine Run.retP g_law19_small (Heap.le_refl _) ?_; simp -implicitDefEqProofs only [rs_law19_small, go_sem, eq_self, Nat.reduceEqDiff, Nat.reduceBEq, Nat.reduceAdd, Nat.reduceLeDiff, reduceIte, reduceCtorEq, tysA, tyA, Ty.enc, Ty.encs])
      | (refine xo_gs rfl (fun h => ?_) (fun h => ?_) <;> first | (cases h; done) | simp -implicitDefEqProofs only [rs_law19_small, Bool.not_eq_true', Bool.not_eq_false', go_sem, eq_self, Nat.reduceEqDiff, Nat.reduceBEq, Nat.reduceAdd, Nat.reduceLeDiff, reduceIte, reduceCtorEq, tysA, tyA, Ty.enc, Ty.encs])
      | (refine ⟨fun h => ?_, fun h => ?_⟩ <;> first | (cases h; done) | (simp -implicitDefEqProofs only [h]; done) | (try simp -implicitDefEqProofs only [h]))
      | fail))
  refine Run.loopA ?_
  refine Run.loopI ((fun (a0 : AV) => fun (i : Nat) => put 0 a0 (put 3 (.d (.int .i64 i)) U)) _) (fun _ => E) (fun _ => σ) (fun i => i ≤ l.length ∧ i ≤ 9 ∧ (l.take i).all (fun x => decide (x.ts.length ≤ 70)) = true) (fun i => l.length - i) ?_ 0 ⟨by simp, by simp, by simp⟩
  rintro i ⟨hi, hi9, hok⟩ ih
  by_cases hlt : i < l.length
  · by_cases h9 : i < 9
    · obtain ⟨x, hx⟩ := ex_at hlt
      have hx' := lin_at hx
      have hw1 := wrap_succ (show i + 1 ≤ 9000000000000000000 by omega)
      cases hk : decide (x.ts.length ≤ 70) with
      | true =>
        (repeat' (first
      | refine Run.seq ?_
      | refine Run.skip ?_
      | refine Run.block ?_
      | refine Run.blk ?_
      | refine Run.scope ?_
      | refine Run.scp ?_
      | (refine Run.exit rfl ?_)
      | (refine Run.reg mixed ?_; simp -implicitDefEqProofs only [lt_t hlt, lt9, decide_eq_true h9, List.length_map, hx', hk, hw1, rs_law19_small, Bool.not_eq_true', Bool.not_eq_false', go_sem, eq_self, Nat.reduceEqDiff, Nat.reduceBEq, Nat.reduceAdd, Nat.reduceLeDiff, reduceIte, reduceCtorEq, tysA, tyA, Ty.enc, Ty.encs])
      | (refine Run.condM ?_; simp -implicitDefEqProofs only [lt_t hlt, lt9, decide_eq_true h9, List.length_map, hx', hk, hw1, rs_law19_small, Bool.not_eq_true', Bool.not_eq_false', go_sem, eq_self, Nat.reduceEqDiff, Nat.reduceBEq, Nat.reduceAdd, Nat.reduceLeDiff, reduceIte, reduceCtorEq, tysA, tyA, Ty.enc, Ty.encs])
      | (refine Run.retP g_law19_small (Heap.le_refl _) ?_; simp -implicitDefEqProofs only [rs_law19_small, lt_t hlt, lt9, decide_eq_true h9, List.length_map, hx', hk, hw1, go_sem, eq_self, Nat.reduceEqDiff, Nat.reduceBEq, Nat.reduceAdd, Nat.reduceLeDiff, reduceIte, reduceCtorEq, tysA, tyA, Ty.enc, Ty.encs])
      | (refine XCall.det (keep_Lin_ok x _) ?_; simp -implicitDefEqProofs only [lt_t hlt, lt9, decide_eq_true h9, List.length_map, hx', hk, hw1, rs_law19_small, Bool.not_eq_true', Bool.not_eq_false', go_sem, eq_self, Nat.reduceEqDiff, Nat.reduceBEq, Nat.reduceAdd, Nat.reduceLeDiff, reduceIte, reduceCtorEq, tysA, tyA, Ty.enc, Ty.encs])
      | (refine xo_gs rfl (fun h => ?_) (fun h => ?_) <;> first | (cases h; done) | simp -implicitDefEqProofs only [lt_t hlt, lt9, decide_eq_true h9, List.length_map, hx', hk, hw1, rs_law19_small, Bool.not_eq_true', Bool.not_eq_false', go_sem, eq_self, Nat.reduceEqDiff, Nat.reduceBEq, Nat.reduceAdd, Nat.reduceLeDiff, reduceIte, reduceCtorEq, tysA, tyA, Ty.enc, Ty.encs])
      | (refine ⟨fun h => ?_, fun h => ?_⟩ <;> first | (cases h; done) | (simp -implicitDefEqProofs only [h]; done) | (try simp -implicitDefEqProofs only [h]))
      | fail))
        refine ih (i + 1) ⟨by omega, by omega, ?_⟩ (by omega)
        rw [List.take_add_one, hx, List.all_append, hok]
        simpa using hk
      | false =>
        (repeat' (first
      | refine Run.seq ?_
      | refine Run.skip ?_
      | refine Run.block ?_
      | refine Run.blk ?_
      | refine Run.scope ?_
      | refine Run.scp ?_
      | (refine Run.exit rfl ?_)
      | (refine Run.reg mixed ?_; simp -implicitDefEqProofs only [lt_t hlt, lt9, decide_eq_true h9, List.length_map, hx', hk, hw1, rs_law19_small, Bool.not_eq_true', Bool.not_eq_false', go_sem, eq_self, Nat.reduceEqDiff, Nat.reduceBEq, Nat.reduceAdd, Nat.reduceLeDiff, reduceIte, reduceCtorEq, tysA, tyA, Ty.enc, Ty.encs])
      | (refine Run.condM ?_; simp -implicitDefEqProofs only [lt_t hlt, lt9, decide_eq_true h9, List.length_map, hx', hk, hw1, rs_law19_small, Bool.not_eq_true', Bool.not_eq_false', go_sem, eq_self, Nat.reduceEqDiff, Nat.reduceBEq, Nat.reduceAdd, Nat.reduceLeDiff, reduceIte, reduceCtorEq, tysA, tyA, Ty.enc, Ty.encs])
      | (refine Run.retP g_law19_small (Heap.le_refl _) ?_; simp -implicitDefEqProofs only [rs_law19_small, lt_t hlt, lt9, decide_eq_true h9, List.length_map, hx', hk, hw1, go_sem, eq_self, Nat.reduceEqDiff, Nat.reduceBEq, Nat.reduceAdd, Nat.reduceLeDiff, reduceIte, reduceCtorEq, tysA, tyA, Ty.enc, Ty.encs])
      | (refine XCall.det (keep_Lin_ok x _) ?_; simp -implicitDefEqProofs only [lt_t hlt, lt9, decide_eq_true h9, List.length_map, hx', hk, hw1, rs_law19_small, Bool.not_eq_true', Bool.not_eq_false', go_sem, eq_self, Nat.reduceEqDiff, Nat.reduceBEq, Nat.reduceAdd, Nat.reduceLeDiff, reduceIte, reduceCtorEq, tysA, tyA, Ty.enc, Ty.encs])
      | (refine xo_gs rfl (fun h => ?_) (fun h => ?_) <;> first | (cases h; done) | simp -implicitDefEqProofs only [lt_t hlt, lt9, decide_eq_true h9, List.length_map, hx', hk, hw1, rs_law19_small, Bool.not_eq_true', Bool.not_eq_false', go_sem, eq_self, Nat.reduceEqDiff, Nat.reduceBEq, Nat.reduceAdd, Nat.reduceLeDiff, reduceIte, reduceCtorEq, tysA, tyA, Ty.enc, Ty.encs])
      | (refine ⟨fun h => ?_, fun h => ?_⟩ <;> first | (cases h; done) | (simp -implicitDefEqProofs only [h]; done) | (try simp -implicitDefEqProofs only [h]))
      | fail))
        have : (l.take 9).all (fun x => decide (x.ts.length ≤ 70)) = false := by
          rw [Bool.eq_false_iff]
          intro h
          rw [List.all_eq_true] at h
          have := h x (by
            rw [List.mem_iff_getElem?]
            exact ⟨i, by rw [List.getElem?_take, if_pos h9, hx]⟩)
          rw [hk] at this; cases this
        simp [smallL, this]
    · (repeat' (first
      | refine Run.seq ?_
      | refine Run.skip ?_
      | refine Run.block ?_
      | refine Run.blk ?_
      | refine Run.scope ?_
      | refine Run.scp ?_
      | (refine Run.exit rfl ?_)
      | (refine Run.reg mixed ?_; simp -implicitDefEqProofs only [lt_t hlt, lt9, decide_eq_false h9, List.length_map, le8, rs_law19_small, Bool.not_eq_true', Bool.not_eq_false', go_sem, eq_self, Nat.reduceEqDiff, Nat.reduceBEq, Nat.reduceAdd, Nat.reduceLeDiff, reduceIte, reduceCtorEq, tysA, tyA, Ty.enc, Ty.encs])
      | (refine Run.condM ?_; simp -implicitDefEqProofs only [lt_t hlt, lt9, decide_eq_false h9, List.length_map, le8, rs_law19_small, Bool.not_eq_true', Bool.not_eq_false', go_sem, eq_self, Nat.reduceEqDiff, Nat.reduceBEq, Nat.reduceAdd, Nat.reduceLeDiff, reduceIte, reduceCtorEq, tysA, tyA, Ty.enc, Ty.encs])
      | (refine Run.retP g_law19_small (Heap.le_refl _) ?_; simp -implicitDefEqProofs only [rs_law19_small, lt_t hlt, lt9, decide_eq_false h9, List.length_map, le8, go_sem, eq_self, Nat.reduceEqDiff, Nat.reduceBEq, Nat.reduceAdd, Nat.reduceLeDiff, reduceIte, reduceCtorEq, tysA, tyA, Ty.enc, Ty.encs])
      | (refine xo_gs rfl (fun h => ?_) (fun h => ?_) <;> first | (cases h; done) | simp -implicitDefEqProofs only [lt_t hlt, lt9, decide_eq_false h9, List.length_map, le8, rs_law19_small, Bool.not_eq_true', Bool.not_eq_false', go_sem, eq_self, Nat.reduceEqDiff, Nat.reduceBEq, Nat.reduceAdd, Nat.reduceLeDiff, reduceIte, reduceCtorEq, tysA, tyA, Ty.enc, Ty.encs])
      | (refine ⟨fun h => ?_, fun h => ?_⟩ <;> first | (cases h; done) | (simp -implicitDefEqProofs only [h]; done) | (try simp -implicitDefEqProofs only [h]))
      | fail))
      have : i = 9 := by omega
      subst this
      simp [smallL, hok]
  · (repeat' (first
      | refine Run.seq ?_
      | refine Run.skip ?_
      | refine Run.block ?_
      | refine Run.blk ?_
      | refine Run.scope ?_
      | refine Run.scp ?_
      | (refine Run.exit rfl ?_)
      | (refine Run.reg mixed ?_; simp -implicitDefEqProofs only [lt_f hlt, List.length_map, le8, rs_law19_small, Bool.not_eq_true', Bool.not_eq_false', go_sem, eq_self, Nat.reduceEqDiff, Nat.reduceBEq, Nat.reduceAdd, Nat.reduceLeDiff, reduceIte, reduceCtorEq, tysA, tyA, Ty.enc, Ty.encs])
      | (refine Run.condM ?_; simp -implicitDefEqProofs only [lt_f hlt, List.length_map, le8, rs_law19_small, Bool.not_eq_true', Bool.not_eq_false', go_sem, eq_self, Nat.reduceEqDiff, Nat.reduceBEq, Nat.reduceAdd, Nat.reduceLeDiff, reduceIte, reduceCtorEq, tysA, tyA, Ty.enc, Ty.encs])
      | (refine Run.retP g_law19_small (Heap.le_refl _) ?_; simp -implicitDefEqProofs only [rs_law19_small, lt_f hlt, List.length_map, le8, go_sem, eq_self, Nat.reduceEqDiff, Nat.reduceBEq, Nat.reduceAdd, Nat.reduceLeDiff, reduceIte, reduceCtorEq, tysA, tyA, Ty.enc, Ty.encs])
      | (refine xo_gs rfl (fun h => ?_) (fun h => ?_) <;> first | (cases h; done) | simp -implicitDefEqProofs only [lt_f hlt, List.length_map, le8, rs_law19_small, Bool.not_eq_true', Bool.not_eq_false', go_sem, eq_self, Nat.reduceEqDiff, Nat.reduceBEq, Nat.reduceAdd, Nat.reduceLeDiff, reduceIte, reduceCtorEq, tysA, tyA, Ty.enc, Ty.encs])
      | (refine ⟨fun h => ?_, fun h => ?_⟩ <;> first | (cases h; done) | (simp -implicitDefEqProofs only [h]; done) | (try simp -implicitDefEqProofs only [h]))
      | fail))
    rw [List.take_of_length_le (by omega)] at hok
    have : (l.take 9).all (fun x => decide (x.ts.length ≤ 70)) = true := by
      rw [List.all_eq_true] at hok ⊢
      exact fun x hx => hok x (List.mem_of_mem_take hx)
    simp [smallL, this]
end Go.Ab

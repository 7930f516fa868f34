/- The laws FormTexts and FormUnique over abstract values. Conditions: the table of powers of ten is laid. -/
import Derived.Test.YtdbpmhfepfpldaaDoorXGk
import Derived.Test.YtdbpmhfepfpldaaDoorXPj
set_option linter.unusedSimpArgs false
set_option linter.unusedVariables false
namespace Go.Ab
open Go.Proofs

theorem FormTexts_ok (l m : Ln) (σ : Heap) (ht : σ.gt powB = some powA) : ACalls Tryd.prog 5 [linA l, linA m] σ (fun v σ' => v = .d (.bool true) ∧ σ' = σ) := by
  obtain ⟨c, ts⟩ := l
  obtain ⟨d, us⟩ := m
  refine i_law19_FormTexts (by simp) ?_
  rw [argF_2]
  simp only [linA]
  cases hs : smallL [⟨c, ts⟩, ⟨d, us⟩] with
  | false =>
    (repeat' (first
      | refine Run.seq ?_
      | refine Run.skip ?_
      | refine Run.block ?_
      | refine Run.blk ?_
      | refine Run.scope ?_
      | refine Run.scp ?_
      | (refine Run.exit rfl ?_)
      | (refine Run.reg mixed ?_; simp -implicitDefEqProofs only [hs, rs_law19_FormTexts, Bool.not_eq_true', Bool.not_eq_false', go_sem, eq_self, Nat.reduceEqDiff, Nat.reduceBEq, Nat.reduceAdd, Nat.reduceLeDiff, reduceIte, reduceCtorEq, tysA, tyA, Ty.enc, Ty.encs])
      | (refine Run.condM ?_; simp -implicitDefEqProofs only [hs, rs_law19_FormTexts, Bool.not_eq_true', Bool.not_eq_false', go_sem, eq_self, Nat.reduceEqDiff, Nat.reduceBEq, Nat.reduceAdd, Nat.reduceLeDiff, reduceIte, reduceCtorEq, tysA, tyA, Ty.enc, Ty.encs])
      | (refine Run.retP g_law19_FormTexts (Heap.le_refl _) ?_; simp -implicitDefEqProofs only [rs_law19_FormTexts, hs, go_sem, eq_self, Nat.reduceEqDiff, Nat.reduceBEq, Nat.reduceAdd, Nat.reduceLeDiff, reduceIte, reduceCtorEq, tysA, tyA, Ty.enc, Ty.encs])
      | (refine XCall.det (law19_small_ok [⟨c, ts⟩, ⟨d, us⟩] _) ?_; simp -implicitDefEqProofs only [hs, rs_law19_FormTexts, Bool.not_eq_true', Bool.not_eq_false', go_sem, eq_self, Nat.reduceEqDiff, Nat.reduceBEq, Nat.reduceAdd, Nat.reduceLeDiff, reduceIte, reduceCtorEq, tysA, tyA, Ty.enc, Ty.encs])
      | (refine xo_gs rfl (fun h => ?_) (fun h => ?_) <;> first | (cases h; done) | simp -implicitDefEqProofs only [hs, rs_law19_FormTexts, Bool.not_eq_true', Bool.not_eq_false', go_sem, eq_self, Nat.reduceEqDiff, Nat.reduceBEq, Nat.reduceAdd, Nat.reduceLeDiff, reduceIte, reduceCtorEq, tysA, tyA, Ty.enc, Ty.encs])
      | (refine ⟨fun h => ?_, fun h => ?_⟩ <;> first | (cases h; done) | (simp -implicitDefEqProofs only [h]; done) | (try simp -implicitDefEqProofs only [h]))
      | fail))
  | true =>
    cases hv : validP ⟨c, ts⟩ with
    | false =>
      (repeat' (first
      | refine Run.seq ?_
      | refine Run.skip ?_
      | refine Run.block ?_
      | refine Run.blk ?_
      | refine Run.scope ?_
      | refine Run.scp ?_
      | (refine Run.exit rfl ?_)
      | (refine Run.reg mixed ?_; simp -implicitDefEqProofs only [hs, hv, strA_eql, strA_neq, BEq.rfl, rs_law19_FormTexts, Bool.not_eq_true', Bool.not_eq_false', go_sem, eq_self, Nat.reduceEqDiff, Nat.reduceBEq, Nat.reduceAdd, Nat.reduceLeDiff, reduceIte, reduceCtorEq, tysA, tyA, Ty.enc, Ty.encs])
      | (refine Run.condM ?_; simp -implicitDefEqProofs only [hs, hv, strA_eql, strA_neq, BEq.rfl, rs_law19_FormTexts, Bool.not_eq_true', Bool.not_eq_false', go_sem, eq_self, Nat.reduceEqDiff, Nat.reduceBEq, Nat.reduceAdd, Nat.reduceLeDiff, reduceIte, reduceCtorEq, tysA, tyA, Ty.enc, Ty.encs])
      | (refine Run.retP g_law19_FormTexts (Heap.le_refl _) ?_; simp -implicitDefEqProofs only [rs_law19_FormTexts, hs, hv, strA_eql, strA_neq, BEq.rfl, go_sem, eq_self, Nat.reduceEqDiff, Nat.reduceBEq, Nat.reduceAdd, Nat.reduceLeDiff, reduceIte, reduceCtorEq, tysA, tyA, Ty.enc, Ty.encs])
      | (refine XCall.det (law19_small_ok [⟨c, ts⟩, ⟨d, us⟩] _) ?_; simp -implicitDefEqProofs only [hs, hv, strA_eql, strA_neq, BEq.rfl, rs_law19_FormTexts, Bool.not_eq_true', Bool.not_eq_false', go_sem, eq_self, Nat.reduceEqDiff, Nat.reduceBEq, Nat.reduceAdd, Nat.reduceLeDiff, reduceIte, reduceCtorEq, tysA, tyA, Ty.enc, Ty.encs])
      | (refine XCall.det (linear_Format_ok ⟨c, ts⟩ _ ht) ?_; simp -implicitDefEqProofs only [hs, hv, strA_eql, strA_neq, BEq.rfl, rs_law19_FormTexts, Bool.not_eq_true', Bool.not_eq_false', go_sem, eq_self, Nat.reduceEqDiff, Nat.reduceBEq, Nat.reduceAdd, Nat.reduceLeDiff, reduceIte, reduceCtorEq, tysA, tyA, Ty.enc, Ty.encs])
      | (refine XCall.det (r19_Format_ok ⟨c, ts⟩ _) ?_; simp -implicitDefEqProofs only [hs, hv, strA_eql, strA_neq, BEq.rfl, rs_law19_FormTexts, Bool.not_eq_true', Bool.not_eq_false', go_sem, eq_self, Nat.reduceEqDiff, Nat.reduceBEq, Nat.reduceAdd, Nat.reduceLeDiff, reduceIte, reduceCtorEq, tysA, tyA, Ty.enc, Ty.encs])
      | (refine XCall.det (linear_Format_ok ⟨d, us⟩ _ ht) ?_; simp -implicitDefEqProofs only [hs, hv, strA_eql, strA_neq, BEq.rfl, rs_law19_FormTexts, Bool.not_eq_true', Bool.not_eq_false', go_sem, eq_self, Nat.reduceEqDiff, Nat.reduceBEq, Nat.reduceAdd, Nat.reduceLeDiff, reduceIte, reduceCtorEq, tysA, tyA, Ty.enc, Ty.encs])
      | (refine XCall.det (r19_Format_ok ⟨d, us⟩ _) ?_; simp -implicitDefEqProofs only [hs, hv, strA_eql, strA_neq, BEq.rfl, rs_law19_FormTexts, Bool.not_eq_true', Bool.not_eq_false', go_sem, eq_self, Nat.reduceEqDiff, Nat.reduceBEq, Nat.reduceAdd, Nat.reduceLeDiff, reduceIte, reduceCtorEq, tysA, tyA, Ty.enc, Ty.encs])
      | (refine XCall.det (r19_Valid_ok ⟨c, ts⟩ _) ?_; simp -implicitDefEqProofs only [hs, hv, strA_eql, strA_neq, BEq.rfl, rs_law19_FormTexts, Bool.not_eq_true', Bool.not_eq_false', go_sem, eq_self, Nat.reduceEqDiff, Nat.reduceBEq, Nat.reduceAdd, Nat.reduceLeDiff, reduceIte, reduceCtorEq, tysA, tyA, Ty.enc, Ty.encs])
      | (refine XCall.det (awake_ok _ ht) ?_; simp -implicitDefEqProofs only [hs, hv, strA_eql, strA_neq, BEq.rfl, rs_law19_FormTexts, Bool.not_eq_true', Bool.not_eq_false', go_sem, eq_self, Nat.reduceEqDiff, Nat.reduceBEq, Nat.reduceAdd, Nat.reduceLeDiff, reduceIte, reduceCtorEq, tysA, tyA, Ty.enc, Ty.encs])
      | (refine xo_gs rfl (fun h => ?_) (fun h => ?_) <;> first | (cases h; done) | simp -implicitDefEqProofs only [hs, hv, strA_eql, strA_neq, BEq.rfl, rs_law19_FormTexts, Bool.not_eq_true', Bool.not_eq_false', go_sem, eq_self, Nat.reduceEqDiff, Nat.reduceBEq, Nat.reduceAdd, Nat.reduceLeDiff, reduceIte, reduceCtorEq, tysA, tyA, Ty.enc, Ty.encs])
      | (refine ⟨fun h => ?_, fun h => ?_⟩ <;> first | (cases h; done) | (simp -implicitDefEqProofs only [h]; done) | (try simp -implicitDefEqProofs only [h]))
      | fail))
    | true =>
    cases hu : validP ⟨d, us⟩ with
    | false =>
      (repeat' (first
      | refine Run.seq ?_
      | refine Run.skip ?_
      | refine Run.block ?_
      | refine Run.blk ?_
      | refine Run.scope ?_
      | refine Run.scp ?_
      | (refine Run.exit rfl ?_)
      | (refine Run.reg mixed ?_; simp -implicitDefEqProofs only [hs, hv, hu, strA_eql, strA_neq, BEq.rfl, rs_law19_FormTexts, Bool.not_eq_true', Bool.not_eq_false', go_sem, eq_self, Nat.reduceEqDiff, Nat.reduceBEq, Nat.reduceAdd, Nat.reduceLeDiff, reduceIte, reduceCtorEq, tysA, tyA, Ty.enc, Ty.encs])
      | (refine Run.condM ?_; simp -implicitDefEqProofs only [hs, hv, hu, strA_eql, strA_neq, BEq.rfl, rs_law19_FormTexts, Bool.not_eq_true', Bool.not_eq_false', go_sem, eq_self, Nat.reduceEqDiff, Nat.reduceBEq, Nat.reduceAdd, Nat.reduceLeDiff, reduceIte, reduceCtorEq, tysA, tyA, Ty.enc, Ty.encs])
      | (refine Run.retP g_law19_FormTexts (Heap.le_refl _) ?_; simp -implicitDefEqProofs only [rs_law19_FormTexts, hs, hv, hu, strA_eql, strA_neq, BEq.rfl, go_sem, eq_self, Nat.reduceEqDiff, Nat.reduceBEq, Nat.reduceAdd, Nat.reduceLeDiff, reduceIte, reduceCtorEq, tysA, tyA, Ty.enc, Ty.encs])
      | (refine XCall.det (law19_small_ok [⟨c, ts⟩, ⟨d, us⟩] _) ?_; simp -implicitDefEqProofs only [hs, hv, hu, strA_eql, strA_neq, BEq.rfl, rs_law19_FormTexts, Bool.not_eq_true', Bool.not_eq_false', go_sem, eq_self, Nat.reduceEqDiff, Nat.reduceBEq, Nat.reduceAdd, Nat.reduceLeDiff, reduceIte, reduceCtorEq, tysA, tyA, Ty.enc, Ty.encs])
      | (refine XCall.det (linear_Format_ok ⟨c, ts⟩ _ ht) ?_; simp -implicitDefEqProofs only [hs, hv, hu, strA_eql, strA_neq, BEq.rfl, rs_law19_FormTexts, Bool.not_eq_true', Bool.not_eq_false', go_sem, eq_self, Nat.reduceEqDiff, Nat.reduceBEq, Nat.reduceAdd, Nat.reduceLeDiff, reduceIte, reduceCtorEq, tysA, tyA, Ty.enc, Ty.encs])
      | (refine XCall.det (r19_Format_ok ⟨c, ts⟩ _) ?_; simp -implicitDefEqProofs only [hs, hv, hu, strA_eql, strA_neq, BEq.rfl, rs_law19_FormTexts, Bool.not_eq_true', Bool.not_eq_false', go_sem, eq_self, Nat.reduceEqDiff, Nat.reduceBEq, Nat.reduceAdd, Nat.reduceLeDiff, reduceIte, reduceCtorEq, tysA, tyA, Ty.enc, Ty.encs])
      | (refine XCall.det (linear_Format_ok ⟨d, us⟩ _ ht) ?_; simp -implicitDefEqProofs only [hs, hv, hu, strA_eql, strA_neq, BEq.rfl, rs_law19_FormTexts, Bool.not_eq_true', Bool.not_eq_false', go_sem, eq_self, Nat.reduceEqDiff, Nat.reduceBEq, Nat.reduceAdd, Nat.reduceLeDiff, reduceIte, reduceCtorEq, tysA, tyA, Ty.enc, Ty.encs])
      | (refine XCall.det (r19_Format_ok ⟨d, us⟩ _) ?_; simp -implicitDefEqProofs only [hs, hv, hu, strA_eql, strA_neq, BEq.rfl, rs_law19_FormTexts, Bool.not_eq_true', Bool.not_eq_false', go_sem, eq_self, Nat.reduceEqDiff, Nat.reduceBEq, Nat.reduceAdd, Nat.reduceLeDiff, reduceIte, reduceCtorEq, tysA, tyA, Ty.enc, Ty.encs])
      | (refine XCall.det (r19_Valid_ok ⟨c, ts⟩ _) ?_; simp -implicitDefEqProofs only [hs, hv, hu, strA_eql, strA_neq, BEq.rfl, rs_law19_FormTexts, Bool.not_eq_true', Bool.not_eq_false', go_sem, eq_self, Nat.reduceEqDiff, Nat.reduceBEq, Nat.reduceAdd, Nat.reduceLeDiff, reduceIte, reduceCtorEq, tysA, tyA, Ty.enc, Ty.encs])
      | (refine XCall.det (r19_Valid_ok ⟨d, us⟩ _) ?_; simp -implicitDefEqProofs only [hs, hv, hu, strA_eql, strA_neq, BEq.rfl, rs_law19_FormTexts, Bool.not_eq_true', Bool.not_eq_false', go_sem, eq_self, Nat.reduceEqDiff, Nat.reduceBEq, Nat.reduceAdd, Nat.reduceLeDiff, reduceIte, reduceCtorEq, tysA, tyA, Ty.enc, Ty.encs])
      | (refine XCall.det (awake_ok _ ht) ?_; simp -implicitDefEqProofs only [hs, hv, hu, strA_eql, strA_neq, BEq.rfl, rs_law19_FormTexts, Bool.not_eq_true', Bool.not_eq_false', go_sem, eq_self, Nat.reduceEqDiff, Nat.reduceBEq, Nat.reduceAdd, Nat.reduceLeDiff, reduceIte, reduceCtorEq, tysA, tyA, Ty.enc, Ty.encs])
      | (refine xo_gs rfl (fun h => ?_) (fun h => ?_) <;> first | (cases h; done) | simp -implicitDefEqProofs only [hs, hv, hu, strA_eql, strA_neq, BEq.rfl, rs_law19_FormTexts, Bool.not_eq_true', Bool.not_eq_false', go_sem, eq_self, Nat.reduceEqDiff, Nat.reduceBEq, Nat.reduceAdd, Nat.reduceLeDiff, reduceIte, reduceCtorEq, tysA, tyA, Ty.enc, Ty.encs])
      | (refine ⟨fun h => ?_, fun h => ?_⟩ <;> first | (cases h; done) | (simp -implicitDefEqProofs only [h]; done) | (try simp -implicitDefEqProofs only [h]))
      | fail))
    | true =>
      have he : ((fmtP ⟨c, ts⟩ == fmtP ⟨d, us⟩) == sameL ⟨c, ts⟩ ⟨d, us⟩) = true := by
        rw [beq_iff_eq, Bool.eq_iff_iff, sameL_iff, beq_iff_eq]
        exact ⟨fmt_inj hv hu, fun h => by rw [h]⟩
      (repeat' (first
      | refine Run.seq ?_
      | refine Run.skip ?_
      | refine Run.block ?_
      | refine Run.blk ?_
      | refine Run.scope ?_
      | refine Run.scp ?_
      | (refine Run.exit rfl ?_)
      | (refine Run.reg mixed ?_; simp -implicitDefEqProofs only [hs, hv, hu, he, strA_eql, strA_neq, BEq.rfl, rs_law19_FormTexts, Bool.not_eq_true', Bool.not_eq_false', go_sem, eq_self, Nat.reduceEqDiff, Nat.reduceBEq, Nat.reduceAdd, Nat.reduceLeDiff, reduceIte, reduceCtorEq, tysA, tyA, Ty.enc, Ty.encs])
      | (refine Run.condM ?_; simp -implicitDefEqProofs only [hs, hv, hu, he, strA_eql, strA_neq, BEq.rfl, rs_law19_FormTexts, Bool.not_eq_true', Bool.not_eq_false', go_sem, eq_self, Nat.reduceEqDiff, Nat.reduceBEq, Nat.reduceAdd, Nat.reduceLeDiff, reduceIte, reduceCtorEq, tysA, tyA, Ty.enc, Ty.encs])
      | (refine Run.retP g_law19_FormTexts (Heap.le_refl _) ?_; simp -implicitDefEqProofs only [rs_law19_FormTexts, hs, hv, hu, he, strA_eql, strA_neq, BEq.rfl, go_sem, eq_self, Nat.reduceEqDiff, Nat.reduceBEq, Nat.reduceAdd, Nat.reduceLeDiff, reduceIte, reduceCtorEq, tysA, tyA, Ty.enc, Ty.encs])
      | (refine XCall.det (law19_small_ok [⟨c, ts⟩, ⟨d, us⟩] _) ?_; simp -implicitDefEqProofs only [hs, hv, hu, he, strA_eql, strA_neq, BEq.rfl, rs_law19_FormTexts, Bool.not_eq_true', Bool.not_eq_false', go_sem, eq_self, Nat.reduceEqDiff, Nat.reduceBEq, Nat.reduceAdd, Nat.reduceLeDiff, reduceIte, reduceCtorEq, tysA, tyA, Ty.enc, Ty.encs])
      | (refine XCall.det (linear_Format_ok ⟨c, ts⟩ _ ht) ?_; simp -implicitDefEqProofs only [hs, hv, hu, he, strA_eql, strA_neq, BEq.rfl, rs_law19_FormTexts, Bool.not_eq_true', Bool.not_eq_false', go_sem, eq_self, Nat.reduceEqDiff, Nat.reduceBEq, Nat.reduceAdd, Nat.reduceLeDiff, reduceIte, reduceCtorEq, tysA, tyA, Ty.enc, Ty.encs])
      | (refine XCall.det (r19_Format_ok ⟨c, ts⟩ _) ?_; simp -implicitDefEqProofs only [hs, hv, hu, he, strA_eql, strA_neq, BEq.rfl, rs_law19_FormTexts, Bool.not_eq_true', Bool.not_eq_false', go_sem, eq_self, Nat.reduceEqDiff, Nat.reduceBEq, Nat.reduceAdd, Nat.reduceLeDiff, reduceIte, reduceCtorEq, tysA, tyA, Ty.enc, Ty.encs])
      | (refine XCall.det (linear_Format_ok ⟨d, us⟩ _ ht) ?_; simp -implicitDefEqProofs only [hs, hv, hu, he, strA_eql, strA_neq, BEq.rfl, rs_law19_FormTexts, Bool.not_eq_true', Bool.not_eq_false', go_sem, eq_self, Nat.reduceEqDiff, Nat.reduceBEq, Nat.reduceAdd, Nat.reduceLeDiff, reduceIte, reduceCtorEq, tysA, tyA, Ty.enc, Ty.encs])
      | (refine XCall.det (r19_Format_ok ⟨d, us⟩ _) ?_; simp -implicitDefEqProofs only [hs, hv, hu, he, strA_eql, strA_neq, BEq.rfl, rs_law19_FormTexts, Bool.not_eq_true', Bool.not_eq_false', go_sem, eq_self, Nat.reduceEqDiff, Nat.reduceBEq, Nat.reduceAdd, Nat.reduceLeDiff, reduceIte, reduceCtorEq, tysA, tyA, Ty.enc, Ty.encs])
      | (refine XCall.det (r19_Valid_ok ⟨c, ts⟩ _) ?_; simp -implicitDefEqProofs only [hs, hv, hu, he, strA_eql, strA_neq, BEq.rfl, rs_law19_FormTexts, Bool.not_eq_true', Bool.not_eq_false', go_sem, eq_self, Nat.reduceEqDiff, Nat.reduceBEq, Nat.reduceAdd, Nat.reduceLeDiff, reduceIte, reduceCtorEq, tysA, tyA, Ty.enc, Ty.encs])
      | (refine XCall.det (r19_Valid_ok ⟨d, us⟩ _) ?_; simp -implicitDefEqProofs only [hs, hv, hu, he, strA_eql, strA_neq, BEq.rfl, rs_law19_FormTexts, Bool.not_eq_true', Bool.not_eq_false', go_sem, eq_self, Nat.reduceEqDiff, Nat.reduceBEq, Nat.reduceAdd, Nat.reduceLeDiff, reduceIte, reduceCtorEq, tysA, tyA, Ty.enc, Ty.encs])
      | (refine XCall.det (keep_SameLin_ok ⟨c, ts⟩ ⟨d, us⟩ _) ?_; simp -implicitDefEqProofs only [hs, hv, hu, he, strA_eql, strA_neq, BEq.rfl, rs_law19_FormTexts, Bool.not_eq_true', Bool.not_eq_false', go_sem, eq_self, Nat.reduceEqDiff, Nat.reduceBEq, Nat.reduceAdd, Nat.reduceLeDiff, reduceIte, reduceCtorEq, tysA, tyA, Ty.enc, Ty.encs])
      | (refine XCall.det (awake_ok _ ht) ?_; simp -implicitDefEqProofs only [hs, hv, hu, he, strA_eql, strA_neq, BEq.rfl, rs_law19_FormTexts, Bool.not_eq_true', Bool.not_eq_false', go_sem, eq_self, Nat.reduceEqDiff, Nat.reduceBEq, Nat.reduceAdd, Nat.reduceLeDiff, reduceIte, reduceCtorEq, tysA, tyA, Ty.enc, Ty.encs])
      | (refine xo_gs rfl (fun h => ?_) (fun h => ?_) <;> first | (cases h; done) | simp -implicitDefEqProofs only [hs, hv, hu, he, strA_eql, strA_neq, BEq.rfl, rs_law19_FormTexts, Bool.not_eq_true', Bool.not_eq_false', go_sem, eq_self, Nat.reduceEqDiff, Nat.reduceBEq, Nat.reduceAdd, Nat.reduceLeDiff, reduceIte, reduceCtorEq, tysA, tyA, Ty.enc, Ty.encs])
      | (refine ⟨fun h => ?_, fun h => ?_⟩ <;> first | (cases h; done) | (simp -implicitDefEqProofs only [h]; done) | (try simp -implicitDefEqProofs only [h]))
      | fail))

theorem csum_set (v : Int) : ∀ (l : Tms) (i : Nat) (x : Int × Int) (c : Int), l[i]? = some x → csum v (l.set i (x.1, c)) = csum v l + (if x.1 = v then c - x.2 else 0)
  | [], i, x, c, h => by simp at h
  | y :: l, 0, x, c, h => by
    simp only [List.getElem?_cons_zero, Option.some.injEq] at h; subst h
    simp only [List.set_cons_zero, csum]
    split <;> omega
  | y :: l, i + 1, x, c, h => by
    have := csum_set v l i x c (by simpa using h)
    simp only [List.set_cons_succ, csum, this]; omega

theorem all_set {p : Int × Int → Bool} {l : Tms} {i : Nat} {x y : Int × Int} (h : l[i]? = some x) (hp : p y = p x) : (l.set i y).all p = l.all p := by
  induction l generalizing i with
  | nil => simp at h
  | cons z l ih =>
    cases i with
    | zero => simp only [List.getElem?_cons_zero, Option.some.injEq] at h; subst h; simp [hp]
    | succ i => simp only [List.set_cons_succ, List.all_cons]; rw [ih (by simpa using h)]

theorem can_split {c d : Int} {ts : Tms} {i : Nat} {x : Int × Int} (hx : ts[i]? = some x) (hl : ts.length ≤ 40) (hd : -1000 ≤ d ∧ d ≤ 1000) (hx2 : -1073741824 ≤ x.2 ∧ x.2 ≤ 1073741824) :
    canP ⟨c, ts.set i (x.1, x.2 - d) ++ [(x.1, d)]⟩ = canP ⟨c, ts⟩ := by
  have e1 : (ts.set i (x.1, x.2 - d) ++ [(x.1, d)]).all (fun x => vaB x.1) = ts.all (fun x => vaB x.1) := by
    rw [List.all_append, all_set (y := (x.1, x.2 - d)) hx (p := fun x => vaB x.1) rfl]
    have : ts.all (fun x => vaB x.1) = true → vaB x.1 = true := fun h => List.all_eq_true.1 h x (List.mem_of_getElem? hx)
    cases h : ts.all (fun x => vaB x.1) with
    | false => simp
    | true => simp [this h]
  have e2 : (ts.set i (x.1, x.2 - d) ++ [(x.1, d)]).all (fun x => !lgB x.2) = ts.all (fun x => !lgB x.2) := by
    have l1 : lgB (x.2 - d) = false := (lgB_iff _).2 (by omega)
    have l2 : lgB x.2 = false := (lgB_iff _).2 (by omega)
    have l3 : lgB d = false := (lgB_iff _).2 (by omega)
    rw [List.all_append, all_set hx (p := fun x => !lgB x.2) (by simp [l1, l2])]
    simp [l3]
  have e3 : decide ((ts.set i (x.1, x.2 - d) ++ [(x.1, d)]).length ≤ 64) = decide (ts.length ≤ 64) := by
    rw [List.length_append, List.length_set]; simp; omega
  have e4 : canTs (ts.set i (x.1, x.2 - d) ++ [(x.1, d)]) = canTs ts := canTs_congr (fun v => by
    rw [csum_append, csum_set v _ _ _ _ hx]
    simp only [csum]
    split <;> omega)
  simp only [canP, e1, e2, e3, e4]

theorem okTs_vaB : ∀ {ts : Tms} {p : Option Int}, okTs p ts = true → ts.all (fun x => vaB x.1) = true
  | [], _, _ => rfl
  | y :: l, p, h => by
    simp only [okTs, Bool.and_eq_true] at h
    simp only [List.all_cons, Bool.and_eq_true]
    exact ⟨h.1.1.1.1, okTs_vaB h.2⟩
theorem can_valid {l : Ln} (h : validP l = true) : canP l = (l, 0) := by
  obtain ⟨h1, h2, h3, h4⟩ := valid_facts h
  obtain ⟨a1, a2⟩ := valid_asc h
  have hv := h
  simp only [validP, Bool.and_eq_true] at hv
  have e1 := okTs_vaB hv.2
  have e2 : l.ts.all (fun x => !lgB x.2) = true := by
    rw [List.all_eq_true]
    intro x hx
    have := h2 x hx
    simp only [Bool.not_eq_true']
    exact (lgB_iff _).2 (by omega)
  have e3 : lgB l.c = false := (lgB_iff _).2 (by omega)
  have e4 : decide (l.ts.length ≤ 64) = true := by simp; omega
  obtain ⟨c, ts⟩ := l
  simp only at e1 e2 e3 e4 a1 a2
  simp only [canP, e1, e2, e3, e4, if_true, Bool.not_false, Bool.and_self, canTs_self a1 a2, chk, h]

theorem gt40 (n : Nat) : decide ((40 : Int) < (n : Int)) = !decide (n ≤ 40) := by
  rw [Bool.eq_iff_iff]; simp; omega

set_option maxHeartbeats 1000000 in
theorem FormUnique_ok (l : Ln) (k c : Int) (σ : Heap) (ht : σ.gt powB = some powA) : ACalls Tryd.prog 8 [linA l, .d (.int .i64 k), .d (.int .i64 c)] σ (fun v σ' => v = .d (.bool true) ∧ σ' = σ) := by
  obtain ⟨d, ts⟩ := l
  refine i_law19_FormUnique (by simp) ?_
  rw [argF_3]
  simp only [linA]
  by_cases h40 : ts.length ≤ 40
  case neg =>
    cases h70 : decide (ts.length ≤ 70) with
    | false => (repeat' (first
      | refine Run.seq ?_
      | refine Run.skip ?_
      | refine Run.block ?_
      | refine Run.blk ?_
      | refine Run.scope ?_
      | refine Run.scp ?_
      | (refine Run.exit rfl ?_)
      | (refine Run.reg mixed ?_; simp -implicitDefEqProofs only [h70, gt40, List.length_map, decide_eq_false h40, rs_law19_FormUnique, Bool.not_eq_true', Bool.not_eq_false', go_sem, eq_self, Nat.reduceEqDiff, Nat.reduceBEq, Nat.reduceAdd, Nat.reduceLeDiff, reduceIte, reduceCtorEq, tysA, tyA, Ty.enc, Ty.encs])
      | (refine Run.condM ?_; simp -implicitDefEqProofs only [h70, gt40, List.length_map, decide_eq_false h40, rs_law19_FormUnique, Bool.not_eq_true', Bool.not_eq_false', go_sem, eq_self, Nat.reduceEqDiff, Nat.reduceBEq, Nat.reduceAdd, Nat.reduceLeDiff, reduceIte, reduceCtorEq, tysA, tyA, Ty.enc, Ty.encs])
      | (refine Run.retP g_law19_FormUnique (Heap.le_refl _) ?_; simp -implicitDefEqProofs only [rs_law19_FormUnique, h70, gt40, List.length_map, decide_eq_false h40, go_sem, eq_self, Nat.reduceEqDiff, Nat.reduceBEq, Nat.reduceAdd, Nat.reduceLeDiff, reduceIte, reduceCtorEq, tysA, tyA, Ty.enc, Ty.encs])
      | (refine XCall.det (keep_Lin_ok ⟨d, ts⟩ _) ?_; simp -implicitDefEqProofs only [h70, gt40, List.length_map, decide_eq_false h40, rs_law19_FormUnique, Bool.not_eq_true', Bool.not_eq_false', go_sem, eq_self, Nat.reduceEqDiff, Nat.reduceBEq, Nat.reduceAdd, Nat.reduceLeDiff, reduceIte, reduceCtorEq, tysA, tyA, Ty.enc, Ty.encs])
      | (refine xo_gs rfl (fun h => ?_) (fun h => ?_) <;> first | (cases h; done) | simp -implicitDefEqProofs only [h70, gt40, List.length_map, decide_eq_false h40, rs_law19_FormUnique, Bool.not_eq_true', Bool.not_eq_false', go_sem, eq_self, Nat.reduceEqDiff, Nat.reduceBEq, Nat.reduceAdd, Nat.reduceLeDiff, reduceIte, reduceCtorEq, tysA, tyA, Ty.enc, Ty.encs])
      | (refine ⟨fun h => ?_, fun h => ?_⟩ <;> first | (cases h; done) | (simp -implicitDefEqProofs only [h]; done) | (try simp -implicitDefEqProofs only [h]))
      | fail))
    | true => (repeat' (first
      | refine Run.seq ?_
      | refine Run.skip ?_
      | refine Run.block ?_
      | refine Run.blk ?_
      | refine Run.scope ?_
      | refine Run.scp ?_
      | (refine Run.exit rfl ?_)
      | (refine Run.reg mixed ?_; simp -implicitDefEqProofs only [h70, gt40, List.length_map, decide_eq_false h40, rs_law19_FormUnique, Bool.not_eq_true', Bool.not_eq_false', go_sem, eq_self, Nat.reduceEqDiff, Nat.reduceBEq, Nat.reduceAdd, Nat.reduceLeDiff, reduceIte, reduceCtorEq, tysA, tyA, Ty.enc, Ty.encs])
      | (refine Run.condM ?_; simp -implicitDefEqProofs only [h70, gt40, List.length_map, decide_eq_false h40, rs_law19_FormUnique, Bool.not_eq_true', Bool.not_eq_false', go_sem, eq_self, Nat.reduceEqDiff, Nat.reduceBEq, Nat.reduceAdd, Nat.reduceLeDiff, reduceIte, reduceCtorEq, tysA, tyA, Ty.enc, Ty.encs])
      | (refine Run.retP g_law19_FormUnique (Heap.le_refl _) ?_; simp -implicitDefEqProofs only [rs_law19_FormUnique, h70, gt40, List.length_map, decide_eq_false h40, go_sem, eq_self, Nat.reduceEqDiff, Nat.reduceBEq, Nat.reduceAdd, Nat.reduceLeDiff, reduceIte, reduceCtorEq, tysA, tyA, Ty.enc, Ty.encs])
      | (refine XCall.det (keep_Lin_ok ⟨d, ts⟩ _) ?_; simp -implicitDefEqProofs only [h70, gt40, List.length_map, decide_eq_false h40, rs_law19_FormUnique, Bool.not_eq_true', Bool.not_eq_false', go_sem, eq_self, Nat.reduceEqDiff, Nat.reduceBEq, Nat.reduceAdd, Nat.reduceLeDiff, reduceIte, reduceCtorEq, tysA, tyA, Ty.enc, Ty.encs])
      | (refine xo_gs rfl (fun h => ?_) (fun h => ?_) <;> first | (cases h; done) | simp -implicitDefEqProofs only [h70, gt40, List.length_map, decide_eq_false h40, rs_law19_FormUnique, Bool.not_eq_true', Bool.not_eq_false', go_sem, eq_self, Nat.reduceEqDiff, Nat.reduceBEq, Nat.reduceAdd, Nat.reduceLeDiff, reduceIte, reduceCtorEq, tysA, tyA, Ty.enc, Ty.encs])
      | (refine ⟨fun h => ?_, fun h => ?_⟩ <;> first | (cases h; done) | (simp -implicitDefEqProofs only [h]; done) | (try simp -implicitDefEqProofs only [h]))
      | fail))
  have h70 : decide (ts.length ≤ 70) = true := by simp; omega
  by_cases a1 : k < 0
  · (repeat' (first
      | refine Run.seq ?_
      | refine Run.skip ?_
      | refine Run.block ?_
      | refine Run.blk ?_
      | refine Run.scope ?_
      | refine Run.scp ?_
      | (refine Run.exit rfl ?_)
      | (refine Run.reg mixed ?_; simp -implicitDefEqProofs only [h70, gt40, List.length_map, decide_eq_true h40, decide_eq_true a1, rs_law19_FormUnique, Bool.not_eq_true', Bool.not_eq_false', go_sem, eq_self, Nat.reduceEqDiff, Nat.reduceBEq, Nat.reduceAdd, Nat.reduceLeDiff, reduceIte, reduceCtorEq, tysA, tyA, Ty.enc, Ty.encs])
      | (refine Run.condM ?_; simp -implicitDefEqProofs only [h70, gt40, List.length_map, decide_eq_true h40, decide_eq_true a1, rs_law19_FormUnique, Bool.not_eq_true', Bool.not_eq_false', go_sem, eq_self, Nat.reduceEqDiff, Nat.reduceBEq, Nat.reduceAdd, Nat.reduceLeDiff, reduceIte, reduceCtorEq, tysA, tyA, Ty.enc, Ty.encs])
      | (refine Run.retP g_law19_FormUnique (Heap.le_refl _) ?_; simp -implicitDefEqProofs only [rs_law19_FormUnique, h70, gt40, List.length_map, decide_eq_true h40, decide_eq_true a1, go_sem, eq_self, Nat.reduceEqDiff, Nat.reduceBEq, Nat.reduceAdd, Nat.reduceLeDiff, reduceIte, reduceCtorEq, tysA, tyA, Ty.enc, Ty.encs])
      | (refine XCall.det (keep_Lin_ok ⟨d, ts⟩ _) ?_; simp -implicitDefEqProofs only [h70, gt40, List.length_map, decide_eq_true h40, decide_eq_true a1, rs_law19_FormUnique, Bool.not_eq_true', Bool.not_eq_false', go_sem, eq_self, Nat.reduceEqDiff, Nat.reduceBEq, Nat.reduceAdd, Nat.reduceLeDiff, reduceIte, reduceCtorEq, tysA, tyA, Ty.enc, Ty.encs])
      | (refine xo_gs rfl (fun h => ?_) (fun h => ?_) <;> first | (cases h; done) | simp -implicitDefEqProofs only [h70, gt40, List.length_map, decide_eq_true h40, decide_eq_true a1, rs_law19_FormUnique, Bool.not_eq_true', Bool.not_eq_false', go_sem, eq_self, Nat.reduceEqDiff, Nat.reduceBEq, Nat.reduceAdd, Nat.reduceLeDiff, reduceIte, reduceCtorEq, tysA, tyA, Ty.enc, Ty.encs])
      | (refine ⟨fun h => ?_, fun h => ?_⟩ <;> first | (cases h; done) | (simp -implicitDefEqProofs only [h]; done) | (try simp -implicitDefEqProofs only [h]))
      | fail))
  obtain ⟨i, rfl⟩ : ∃ i : Nat, k = i := ⟨k.toNat, by omega⟩
  by_cases hlt : i < ts.length
  case neg =>
    have a2 : decide ((ts.length : Int) ≤ (i : Int)) = true := by simp; omega
    (repeat' (first
      | refine Run.seq ?_
      | refine Run.skip ?_
      | refine Run.block ?_
      | refine Run.blk ?_
      | refine Run.scope ?_
      | refine Run.scp ?_
      | (refine Run.exit rfl ?_)
      | (refine Run.reg mixed ?_; simp -implicitDefEqProofs only [h70, gt40, List.length_map, decide_eq_true h40, decide_eq_false a1, a2, rs_law19_FormUnique, Bool.not_eq_true', Bool.not_eq_false', go_sem, eq_self, Nat.reduceEqDiff, Nat.reduceBEq, Nat.reduceAdd, Nat.reduceLeDiff, reduceIte, reduceCtorEq, tysA, tyA, Ty.enc, Ty.encs])
      | (refine Run.condM ?_; simp -implicitDefEqProofs only [h70, gt40, List.length_map, decide_eq_true h40, decide_eq_false a1, a2, rs_law19_FormUnique, Bool.not_eq_true', Bool.not_eq_false', go_sem, eq_self, Nat.reduceEqDiff, Nat.reduceBEq, Nat.reduceAdd, Nat.reduceLeDiff, reduceIte, reduceCtorEq, tysA, tyA, Ty.enc, Ty.encs])
      | (refine Run.retP g_law19_FormUnique (Heap.le_refl _) ?_; simp -implicitDefEqProofs only [rs_law19_FormUnique, h70, gt40, List.length_map, decide_eq_true h40, decide_eq_false a1, a2, go_sem, eq_self, Nat.reduceEqDiff, Nat.reduceBEq, Nat.reduceAdd, Nat.reduceLeDiff, reduceIte, reduceCtorEq, tysA, tyA, Ty.enc, Ty.encs])
      | (refine XCall.det (keep_Lin_ok ⟨d, ts⟩ _) ?_; simp -implicitDefEqProofs only [h70, gt40, List.length_map, decide_eq_true h40, decide_eq_false a1, a2, rs_law19_FormUnique, Bool.not_eq_true', Bool.not_eq_false', go_sem, eq_self, Nat.reduceEqDiff, Nat.reduceBEq, Nat.reduceAdd, Nat.reduceLeDiff, reduceIte, reduceCtorEq, tysA, tyA, Ty.enc, Ty.encs])
      | (refine xo_gs rfl (fun h => ?_) (fun h => ?_) <;> first | (cases h; done) | simp -implicitDefEqProofs only [h70, gt40, List.length_map, decide_eq_true h40, decide_eq_false a1, a2, rs_law19_FormUnique, Bool.not_eq_true', Bool.not_eq_false', go_sem, eq_self, Nat.reduceEqDiff, Nat.reduceBEq, Nat.reduceAdd, Nat.reduceLeDiff, reduceIte, reduceCtorEq, tysA, tyA, Ty.enc, Ty.encs])
      | (refine ⟨fun h => ?_, fun h => ?_⟩ <;> first | (cases h; done) | (simp -implicitDefEqProofs only [h]; done) | (try simp -implicitDefEqProofs only [h]))
      | fail))
  have a2 : decide ((ts.length : Int) ≤ (i : Int)) = false := by simp; omega
  by_cases a3 : c < -1000
  · (repeat' (first
      | refine Run.seq ?_
      | refine Run.skip ?_
      | refine Run.block ?_
      | refine Run.blk ?_
      | refine Run.scope ?_
      | refine Run.scp ?_
      | (refine Run.exit rfl ?_)
      | (refine Run.reg mixed ?_; simp -implicitDefEqProofs only [h70, gt40, List.length_map, decide_eq_true h40, decide_eq_false a1, a2, decide_eq_true a3, rs_law19_FormUnique, Bool.not_eq_true', Bool.not_eq_false', go_sem, eq_self, Nat.reduceEqDiff, Nat.reduceBEq, Nat.reduceAdd, Nat.reduceLeDiff, reduceIte, reduceCtorEq, tysA, tyA, Ty.enc, Ty.encs])
      | (refine Run.condM ?_; simp -implicitDefEqProofs only [h70, gt40, List.length_map, decide_eq_true h40, decide_eq_false a1, a2, decide_eq_true a3, rs_law19_FormUnique, Bool.not_eq_true', Bool.not_eq_false', go_sem, eq_self, Nat.reduceEqDiff, Nat.reduceBEq, Nat.reduceAdd, Nat.reduceLeDiff, reduceIte, reduceCtorEq, tysA, tyA, Ty.enc, Ty.encs])
      | (refine Run.retP g_law19_FormUnique (Heap.le_refl _) ?_; simp -implicitDefEqProofs only [rs_law19_FormUnique, h70, gt40, List.length_map, decide_eq_true h40, decide_eq_false a1, a2, decide_eq_true a3, go_sem, eq_self, Nat.reduceEqDiff, Nat.reduceBEq, Nat.reduceAdd, Nat.reduceLeDiff, reduceIte, reduceCtorEq, tysA, tyA, Ty.enc, Ty.encs])
      | (refine XCall.det (keep_Lin_ok ⟨d, ts⟩ _) ?_; simp -implicitDefEqProofs only [h70, gt40, List.length_map, decide_eq_true h40, decide_eq_false a1, a2, decide_eq_true a3, rs_law19_FormUnique, Bool.not_eq_true', Bool.not_eq_false', go_sem, eq_self, Nat.reduceEqDiff, Nat.reduceBEq, Nat.reduceAdd, Nat.reduceLeDiff, reduceIte, reduceCtorEq, tysA, tyA, Ty.enc, Ty.encs])
      | (refine xo_gs rfl (fun h => ?_) (fun h => ?_) <;> first | (cases h; done) | simp -implicitDefEqProofs only [h70, gt40, List.length_map, decide_eq_true h40, decide_eq_false a1, a2, decide_eq_true a3, rs_law19_FormUnique, Bool.not_eq_true', Bool.not_eq_false', go_sem, eq_self, Nat.reduceEqDiff, Nat.reduceBEq, Nat.reduceAdd, Nat.reduceLeDiff, reduceIte, reduceCtorEq, tysA, tyA, Ty.enc, Ty.encs])
      | (refine ⟨fun h => ?_, fun h => ?_⟩ <;> first | (cases h; done) | (simp -implicitDefEqProofs only [h]; done) | (try simp -implicitDefEqProofs only [h]))
      | fail))
  by_cases a4 : 1000 < c
  · (repeat' (first
      | refine Run.seq ?_
      | refine Run.skip ?_
      | refine Run.block ?_
      | refine Run.blk ?_
      | refine Run.scope ?_
      | refine Run.scp ?_
      | (refine Run.exit rfl ?_)
      | (refine Run.reg mixed ?_; simp -implicitDefEqProofs only [h70, gt40, List.length_map, decide_eq_true h40, decide_eq_false a1, a2, decide_eq_false a3, decide_eq_true a4, rs_law19_FormUnique, Bool.not_eq_true', Bool.not_eq_false', go_sem, eq_self, Nat.reduceEqDiff, Nat.reduceBEq, Nat.reduceAdd, Nat.reduceLeDiff, reduceIte, reduceCtorEq, tysA, tyA, Ty.enc, Ty.encs])
      | (refine Run.condM ?_; simp -implicitDefEqProofs only [h70, gt40, List.length_map, decide_eq_true h40, decide_eq_false a1, a2, decide_eq_false a3, decide_eq_true a4, rs_law19_FormUnique, Bool.not_eq_true', Bool.not_eq_false', go_sem, eq_self, Nat.reduceEqDiff, Nat.reduceBEq, Nat.reduceAdd, Nat.reduceLeDiff, reduceIte, reduceCtorEq, tysA, tyA, Ty.enc, Ty.encs])
      | (refine Run.retP g_law19_FormUnique (Heap.le_refl _) ?_; simp -implicitDefEqProofs only [rs_law19_FormUnique, h70, gt40, List.length_map, decide_eq_true h40, decide_eq_false a1, a2, decide_eq_false a3, decide_eq_true a4, go_sem, eq_self, Nat.reduceEqDiff, Nat.reduceBEq, Nat.reduceAdd, Nat.reduceLeDiff, reduceIte, reduceCtorEq, tysA, tyA, Ty.enc, Ty.encs])
      | (refine XCall.det (keep_Lin_ok ⟨d, ts⟩ _) ?_; simp -implicitDefEqProofs only [h70, gt40, List.length_map, decide_eq_true h40, decide_eq_false a1, a2, decide_eq_false a3, decide_eq_true a4, rs_law19_FormUnique, Bool.not_eq_true', Bool.not_eq_false', go_sem, eq_self, Nat.reduceEqDiff, Nat.reduceBEq, Nat.reduceAdd, Nat.reduceLeDiff, reduceIte, reduceCtorEq, tysA, tyA, Ty.enc, Ty.encs])
      | (refine xo_gs rfl (fun h => ?_) (fun h => ?_) <;> first | (cases h; done) | simp -implicitDefEqProofs only [h70, gt40, List.length_map, decide_eq_true h40, decide_eq_false a1, a2, decide_eq_false a3, decide_eq_true a4, rs_law19_FormUnique, Bool.not_eq_true', Bool.not_eq_false', go_sem, eq_self, Nat.reduceEqDiff, Nat.reduceBEq, Nat.reduceAdd, Nat.reduceLeDiff, reduceIte, reduceCtorEq, tysA, tyA, Ty.enc, Ty.encs])
      | (refine ⟨fun h => ?_, fun h => ?_⟩ <;> first | (cases h; done) | (simp -implicitDefEqProofs only [h]; done) | (try simp -implicitDefEqProofs only [h]))
      | fail))
  obtain ⟨x, hx⟩ := ex_at hlt
  -- the first check
  have hchk : ∃ b, validP ⟨d, ts⟩ = b ∧ (b = true → canP ⟨d, ts⟩ = (⟨d, ts⟩, 0)) := ⟨_, rfl, can_valid⟩
  have hne : ts ≠ [] := by intro e; rw [e] at hlt; simp at hlt
  have hfin : ∀ (F : Fm) (L : Lm) (R : Prop), R → R := fun _ _ _ h => h
  have e0 : validP ⟨d, ts⟩ = true → ((canP ⟨d, ts⟩).2 != 0) = false := fun h => by rw [can_valid h]; rfl
  have e00 : validP ⟨d, ts⟩ = true → sameL ⟨d, ts⟩ (canP ⟨d, ts⟩).1 = true := fun h => by rw [can_valid h]; exact sameL_self _
  have hix : ((i : Int) < (ts.length : Int)) = True := by simp; omega
  obtain ⟨g1, g2⟩ := prs_get _ _ _ hx
  have main : ∀ {b : Bool}, validP ⟨d, ts⟩ = b → Run x_law19_FormUnique (fun v σ' => v = .d (.bool true) ∧ σ' = σ) [.code c_law19_FormUnique] (put 0 (.agg [.d (.int .i64 d), .d (.sl (ts.map tmR))]) (put 1 (.d (.int .i64 (i : Int))) (put 2 (.d (.int .i64 c)) U))) E σ := by
    intro b hb
    have hX : (b = true → ((canP ⟨d, ts⟩).2 != 0) = false ∧ sameL ⟨d, ts⟩ (canP ⟨d, ts⟩).1 = true) := fun h => ⟨e0 (hb.trans h), e00 (hb.trans h)⟩
    cases b
    all_goals (try (have hX2 := hX rfl))
    all_goals (try (obtain ⟨y1, y2⟩ := hX2))
    · (repeat' (first
      | refine Run.seq ?_
      | refine Run.skip ?_
      | refine Run.block ?_
      | refine Run.blk ?_
      | refine Run.scope ?_
      | refine Run.scp ?_
      | (refine Run.exit rfl ?_)
      | (refine Run.reg mixed ?_; simp -implicitDefEqProofs only [h70, gt40, List.length_map, decide_eq_true h40, decide_eq_false a1, a2, decide_eq_false a3, decide_eq_false a4, hb, resA, linA, rs_law19_FormUnique, Bool.not_eq_true', Bool.not_eq_false', go_sem, eq_self, Nat.reduceEqDiff, Nat.reduceBEq, Nat.reduceAdd, Nat.reduceLeDiff, reduceIte, reduceCtorEq, tysA, tyA, Ty.enc, Ty.encs])
      | (refine Run.condM ?_; simp -implicitDefEqProofs only [h70, gt40, List.length_map, decide_eq_true h40, decide_eq_false a1, a2, decide_eq_false a3, decide_eq_false a4, hb, resA, linA, rs_law19_FormUnique, Bool.not_eq_true', Bool.not_eq_false', go_sem, eq_self, Nat.reduceEqDiff, Nat.reduceBEq, Nat.reduceAdd, Nat.reduceLeDiff, reduceIte, reduceCtorEq, tysA, tyA, Ty.enc, Ty.encs])
      | (refine XCall.det (keep_Lin_ok ⟨d, ts⟩ _) ?_; simp -implicitDefEqProofs only [h70, gt40, List.length_map, decide_eq_true h40, decide_eq_false a1, a2, decide_eq_false a3, decide_eq_false a4, hb, resA, linA, rs_law19_FormUnique, Bool.not_eq_true', Bool.not_eq_false', go_sem, eq_self, Nat.reduceEqDiff, Nat.reduceBEq, Nat.reduceAdd, Nat.reduceLeDiff, reduceIte, reduceCtorEq, tysA, tyA, Ty.enc, Ty.encs])
      | (refine XCall.det (linear_Canonical_ok ⟨d, ts⟩ _) ?_; simp -implicitDefEqProofs only [h70, gt40, List.length_map, decide_eq_true h40, decide_eq_false a1, a2, decide_eq_false a3, decide_eq_false a4, hb, resA, linA, rs_law19_FormUnique, Bool.not_eq_true', Bool.not_eq_false', go_sem, eq_self, Nat.reduceEqDiff, Nat.reduceBEq, Nat.reduceAdd, Nat.reduceLeDiff, reduceIte, reduceCtorEq, tysA, tyA, Ty.enc, Ty.encs])
      | (refine XCall.det (r19_Valid_ok ⟨d, ts⟩ _) ?_; simp -implicitDefEqProofs only [h70, gt40, List.length_map, decide_eq_true h40, decide_eq_false a1, a2, decide_eq_false a3, decide_eq_false a4, hb, resA, linA, rs_law19_FormUnique, Bool.not_eq_true', Bool.not_eq_false', go_sem, eq_self, Nat.reduceEqDiff, Nat.reduceBEq, Nat.reduceAdd, Nat.reduceLeDiff, reduceIte, reduceCtorEq, tysA, tyA, Ty.enc, Ty.encs])
      | (refine xo_gs rfl (fun h => ?_) (fun h => ?_) <;> first | (cases h; done) | simp -implicitDefEqProofs only [h70, gt40, List.length_map, decide_eq_true h40, decide_eq_false a1, a2, decide_eq_false a3, decide_eq_false a4, hb, resA, linA, rs_law19_FormUnique, Bool.not_eq_true', Bool.not_eq_false', go_sem, eq_self, Nat.reduceEqDiff, Nat.reduceBEq, Nat.reduceAdd, Nat.reduceLeDiff, reduceIte, reduceCtorEq, tysA, tyA, Ty.enc, Ty.encs])
      | (refine ⟨fun h => ?_, fun h => ?_⟩ <;> first | (cases h; done) | (simp -implicitDefEqProofs only [h]; done) | (try simp -implicitDefEqProofs only [h]))
      | fail))
      refine XAppM.mr (us := ts) (.inl ⟨rfl, rfl, rfl⟩) (rows_d _) (by simp; omega) (by omega) (fun v0 σ1 hm0 => ?_)
      rcases hm0 with ⟨he, _, _⟩ | ⟨j, hj, rfl, rfl⟩
      · simp at he; exact absurd he hne
      simp only [List.nil_append]
      simp -implicitDefEqProofs only [setBlk_get, go_sem, eq_self, Nat.reduceEqDiff, Nat.reduceBEq, Nat.reduceAdd, Nat.reduceLeDiff, reduceIte, reduceCtorEq, tysA, tyA, Ty.enc, Ty.encs]
      by_cases b1 : x.2 < -1073741824
      · (repeat' (first
      | refine Run.seq ?_
      | refine Run.skip ?_
      | refine Run.block ?_
      | refine Run.blk ?_
      | refine Run.scope ?_
      | refine Run.scp ?_
      | (refine Run.exit rfl ?_)
      | (refine Run.reg mixed ?_; simp -implicitDefEqProofs only [hix, g1, g2, decide_eq_true b1, rs_law19_FormUnique, Bool.not_eq_true', Bool.not_eq_false', go_sem, eq_self, Nat.reduceEqDiff, Nat.reduceBEq, Nat.reduceAdd, Nat.reduceLeDiff, reduceIte, reduceCtorEq, tysA, tyA, Ty.enc, Ty.encs])
      | (refine Run.condM ?_; simp -implicitDefEqProofs only [hix, g1, g2, decide_eq_true b1, rs_law19_FormUnique, Bool.not_eq_true', Bool.not_eq_false', go_sem, eq_self, Nat.reduceEqDiff, Nat.reduceBEq, Nat.reduceAdd, Nat.reduceLeDiff, reduceIte, reduceCtorEq, tysA, tyA, Ty.enc, Ty.encs])
      | (refine Run.retP g_law19_FormUnique (le_setBlk hj) ?_; (try simp -implicitDefEqProofs only [hix, g1, g2, decide_eq_true b1, rs_law19_FormUnique, Bool.not_eq_true', Bool.not_eq_false', go_sem, eq_self, Nat.reduceEqDiff, Nat.reduceBEq, Nat.reduceAdd, Nat.reduceLeDiff, reduceIte, reduceCtorEq, tysA, tyA, Ty.enc, Ty.encs]))
      | (refine Run.retP g_law19_FormUnique (Heap.le_refl _) ?_; simp -implicitDefEqProofs only [rs_law19_FormUnique, hix, g1, g2, decide_eq_true b1, go_sem, eq_self, Nat.reduceEqDiff, Nat.reduceBEq, Nat.reduceAdd, Nat.reduceLeDiff, reduceIte, reduceCtorEq, tysA, tyA, Ty.enc, Ty.encs])
      | (refine XCall.det (awake_ok (σ.setBlk j (prs ts)) ht) ?_; simp -implicitDefEqProofs only [hix, g1, g2, decide_eq_true b1, rs_law19_FormUnique, Bool.not_eq_true', Bool.not_eq_false', go_sem, eq_self, Nat.reduceEqDiff, Nat.reduceBEq, Nat.reduceAdd, Nat.reduceLeDiff, reduceIte, reduceCtorEq, tysA, tyA, Ty.enc, Ty.encs])
      | (refine xo_gs rfl (fun h => ?_) (fun h => ?_) <;> first | (cases h; done) | simp -implicitDefEqProofs only [hix, g1, g2, decide_eq_true b1, rs_law19_FormUnique, Bool.not_eq_true', Bool.not_eq_false', go_sem, eq_self, Nat.reduceEqDiff, Nat.reduceBEq, Nat.reduceAdd, Nat.reduceLeDiff, reduceIte, reduceCtorEq, tysA, tyA, Ty.enc, Ty.encs])
      | (refine ⟨fun h => ?_, fun h => ?_⟩ <;> first | (cases h; done) | (simp -implicitDefEqProofs only [h]; done) | (try simp -implicitDefEqProofs only [h]))
      | fail))
      by_cases b2 : 1073741824 < x.2
      · (repeat' (first
      | refine Run.seq ?_
      | refine Run.skip ?_
      | refine Run.block ?_
      | refine Run.blk ?_
      | refine Run.scope ?_
      | refine Run.scp ?_
      | (refine Run.exit rfl ?_)
      | (refine Run.reg mixed ?_; simp -implicitDefEqProofs only [hix, g1, g2, decide_eq_false b1, decide_eq_true b2, rs_law19_FormUnique, Bool.not_eq_true', Bool.not_eq_false', go_sem, eq_self, Nat.reduceEqDiff, Nat.reduceBEq, Nat.reduceAdd, Nat.reduceLeDiff, reduceIte, reduceCtorEq, tysA, tyA, Ty.enc, Ty.encs])
      | (refine Run.condM ?_; simp -implicitDefEqProofs only [hix, g1, g2, decide_eq_false b1, decide_eq_true b2, rs_law19_FormUnique, Bool.not_eq_true', Bool.not_eq_false', go_sem, eq_self, Nat.reduceEqDiff, Nat.reduceBEq, Nat.reduceAdd, Nat.reduceLeDiff, reduceIte, reduceCtorEq, tysA, tyA, Ty.enc, Ty.encs])
      | (refine Run.retP g_law19_FormUnique (le_setBlk hj) ?_; (try simp -implicitDefEqProofs only [hix, g1, g2, decide_eq_false b1, decide_eq_true b2, rs_law19_FormUnique, Bool.not_eq_true', Bool.not_eq_false', go_sem, eq_self, Nat.reduceEqDiff, Nat.reduceBEq, Nat.reduceAdd, Nat.reduceLeDiff, reduceIte, reduceCtorEq, tysA, tyA, Ty.enc, Ty.encs]))
      | (refine Run.retP g_law19_FormUnique (Heap.le_refl _) ?_; simp -implicitDefEqProofs only [rs_law19_FormUnique, hix, g1, g2, decide_eq_false b1, decide_eq_true b2, go_sem, eq_self, Nat.reduceEqDiff, Nat.reduceBEq, Nat.reduceAdd, Nat.reduceLeDiff, reduceIte, reduceCtorEq, tysA, tyA, Ty.enc, Ty.encs])
      | (refine XCall.det (awake_ok (σ.setBlk j (prs ts)) ht) ?_; simp -implicitDefEqProofs only [hix, g1, g2, decide_eq_false b1, decide_eq_true b2, rs_law19_FormUnique, Bool.not_eq_true', Bool.not_eq_false', go_sem, eq_self, Nat.reduceEqDiff, Nat.reduceBEq, Nat.reduceAdd, Nat.reduceLeDiff, reduceIte, reduceCtorEq, tysA, tyA, Ty.enc, Ty.encs])
      | (refine xo_gs rfl (fun h => ?_) (fun h => ?_) <;> first | (cases h; done) | simp -implicitDefEqProofs only [hix, g1, g2, decide_eq_false b1, decide_eq_true b2, rs_law19_FormUnique, Bool.not_eq_true', Bool.not_eq_false', go_sem, eq_self, Nat.reduceEqDiff, Nat.reduceBEq, Nat.reduceAdd, Nat.reduceLeDiff, reduceIte, reduceCtorEq, tysA, tyA, Ty.enc, Ty.encs])
      | (refine ⟨fun h => ?_, fun h => ?_⟩ <;> first | (cases h; done) | (simp -implicitDefEqProofs only [h]; done) | (try simp -implicitDefEqProofs only [h]))
      | fail))
      have hws : IntKind.i64.wrap (x.2 - c) = x.2 - c := wrap_id (by omega) (by omega)
      have hpw := prs_wr _ i _ (x.2 - c) hx
      simp only [wr, List.length_cons, List.length_nil, Nat.zero_add] at hpw
      have hle : (i * 2 + 1 + (0 + 1) ≤ (prs ts).length) = True := by rw [prs_len]; simp; omega
      have hgs : (ts.set i (x.1, x.2 - c))[i]? = some (x.1, x.2 - c) := by simp [hlt]
      obtain ⟨k1, k2⟩ := prs_get _ _ _ hgs
      simp only at k1 k2
      (repeat' (first
      | refine Run.seq ?_
      | refine Run.skip ?_
      | refine Run.block ?_
      | refine Run.blk ?_
      | refine Run.scope ?_
      | refine Run.scp ?_
      | (refine Run.exit rfl ?_)
      | (refine Run.reg mixed ?_; simp -implicitDefEqProofs only [hix, g1, g2, k1, k2, hws, hpw, hle, decide_eq_false b1, decide_eq_false b2, Nat.zero_add, rs_law19_FormUnique, Bool.not_eq_true', Bool.not_eq_false', go_sem, eq_self, Nat.reduceEqDiff, Nat.reduceBEq, Nat.reduceAdd, Nat.reduceLeDiff, reduceIte, reduceCtorEq, tysA, tyA, Ty.enc, Ty.encs])
      | (refine Run.condM ?_; simp -implicitDefEqProofs only [hix, g1, g2, k1, k2, hws, hpw, hle, decide_eq_false b1, decide_eq_false b2, Nat.zero_add, rs_law19_FormUnique, Bool.not_eq_true', Bool.not_eq_false', go_sem, eq_self, Nat.reduceEqDiff, Nat.reduceBEq, Nat.reduceAdd, Nat.reduceLeDiff, reduceIte, reduceCtorEq, tysA, tyA, Ty.enc, Ty.encs])
      | (refine xo_gs rfl (fun h => ?_) (fun h => ?_) <;> first | (cases h; done) | simp -implicitDefEqProofs only [hix, g1, g2, k1, k2, hws, hpw, hle, decide_eq_false b1, decide_eq_false b2, Nat.zero_add, rs_law19_FormUnique, Bool.not_eq_true', Bool.not_eq_false', go_sem, eq_self, Nat.reduceEqDiff, Nat.reduceBEq, Nat.reduceAdd, Nat.reduceLeDiff, reduceIte, reduceCtorEq, tysA, tyA, Ty.enc, Ty.encs])
      | (refine ⟨fun h => ?_, fun h => ?_⟩ <;> first | (cases h; done) | (simp -implicitDefEqProofs only [h]; done) | (try simp -implicitDefEqProofs only [h]))
      | fail))
      refine XAppM.mr (us := [(x.1, c)]) (ts := ts.set i (x.1, x.2 - c)) (.inr ⟨j, hj, by simp, rfl⟩) rfl (by simp; omega) (by omega) (fun v1 σ2 hm1 => ?_)
      simp -implicitDefEqProofs only [hm1.noLp.2.2.1, hm1.noLp.2.1, go_sem, eq_self, Nat.reduceEqDiff, Nat.reduceBEq, Nat.reduceAdd, Nat.reduceLeDiff, reduceIte, reduceCtorEq, tysA, tyA, Ty.enc, Ty.encs]
      refine Run.frzMR 9 hm1 (by simp; omega) rfl ?_
      have hcan := can_split (c := d) hx h40 ⟨by omega, by omega⟩ ⟨by omega, by omega⟩ (d := c)
      (repeat' (first
      | refine Run.seq ?_
      | refine Run.skip ?_
      | refine Run.block ?_
      | refine Run.blk ?_
      | refine Run.scope ?_
      | refine Run.scp ?_
      | (refine Run.exit rfl ?_)
      | (refine Run.reg mixed ?_; simp -implicitDefEqProofs only [hcan, resA, linA, tmsA, sameL_self, BEq.rfl, rs_law19_FormUnique, Bool.not_eq_true', Bool.not_eq_false', go_sem, eq_self, Nat.reduceEqDiff, Nat.reduceBEq, Nat.reduceAdd, Nat.reduceLeDiff, reduceIte, reduceCtorEq, tysA, tyA, Ty.enc, Ty.encs])
      | (refine Run.condM ?_; simp -implicitDefEqProofs only [hcan, resA, linA, tmsA, sameL_self, BEq.rfl, rs_law19_FormUnique, Bool.not_eq_true', Bool.not_eq_false', go_sem, eq_self, Nat.reduceEqDiff, Nat.reduceBEq, Nat.reduceAdd, Nat.reduceLeDiff, reduceIte, reduceCtorEq, tysA, tyA, Ty.enc, Ty.encs])
      | (refine Run.retP g_law19_FormUnique (Heap.le_refl _) ?_; simp -implicitDefEqProofs only [rs_law19_FormUnique, hcan, resA, linA, tmsA, sameL_self, BEq.rfl, go_sem, eq_self, Nat.reduceEqDiff, Nat.reduceBEq, Nat.reduceAdd, Nat.reduceLeDiff, reduceIte, reduceCtorEq, tysA, tyA, Ty.enc, Ty.encs])
      | (refine XCall.det (linear_Canonical_ok ⟨d, ts.set i (x.1, x.2 - c) ++ [(x.1, c)]⟩ _) ?_; simp -implicitDefEqProofs only [hcan, resA, linA, tmsA, sameL_self, BEq.rfl, rs_law19_FormUnique, Bool.not_eq_true', Bool.not_eq_false', go_sem, eq_self, Nat.reduceEqDiff, Nat.reduceBEq, Nat.reduceAdd, Nat.reduceLeDiff, reduceIte, reduceCtorEq, tysA, tyA, Ty.enc, Ty.encs])
      | (refine XCall.det (keep_SameLin_ok (canP ⟨d, ts⟩).1 (canP ⟨d, ts⟩).1 _) ?_; simp -implicitDefEqProofs only [hcan, resA, linA, tmsA, sameL_self, BEq.rfl, rs_law19_FormUnique, Bool.not_eq_true', Bool.not_eq_false', go_sem, eq_self, Nat.reduceEqDiff, Nat.reduceBEq, Nat.reduceAdd, Nat.reduceLeDiff, reduceIte, reduceCtorEq, tysA, tyA, Ty.enc, Ty.encs])
      | (refine XCall.det (awake_ok _ ht) ?_; simp -implicitDefEqProofs only [hcan, resA, linA, tmsA, sameL_self, BEq.rfl, rs_law19_FormUnique, Bool.not_eq_true', Bool.not_eq_false', go_sem, eq_self, Nat.reduceEqDiff, Nat.reduceBEq, Nat.reduceAdd, Nat.reduceLeDiff, reduceIte, reduceCtorEq, tysA, tyA, Ty.enc, Ty.encs])
      | (refine xo_gs rfl (fun h => ?_) (fun h => ?_) <;> first | (cases h; done) | simp -implicitDefEqProofs only [hcan, resA, linA, tmsA, sameL_self, BEq.rfl, rs_law19_FormUnique, Bool.not_eq_true', Bool.not_eq_false', go_sem, eq_self, Nat.reduceEqDiff, Nat.reduceBEq, Nat.reduceAdd, Nat.reduceLeDiff, reduceIte, reduceCtorEq, tysA, tyA, Ty.enc, Ty.encs])
      | (refine ⟨fun h => ?_, fun h => ?_⟩ <;> first | (cases h; done) | (simp -implicitDefEqProofs only [h]; done) | (try simp -implicitDefEqProofs only [h]))
      | fail))
    · (repeat' (first
      | refine Run.seq ?_
      | refine Run.skip ?_
      | refine Run.block ?_
      | refine Run.blk ?_
      | refine Run.scope ?_
      | refine Run.scp ?_
      | (refine Run.exit rfl ?_)
      | (refine Run.reg mixed ?_; simp -implicitDefEqProofs only [h70, gt40, List.length_map, decide_eq_true h40, decide_eq_false a1, a2, decide_eq_false a3, decide_eq_false a4, hb, y1, y2, resA, linA, rs_law19_FormUnique, Bool.not_eq_true', Bool.not_eq_false', go_sem, eq_self, Nat.reduceEqDiff, Nat.reduceBEq, Nat.reduceAdd, Nat.reduceLeDiff, reduceIte, reduceCtorEq, tysA, tyA, Ty.enc, Ty.encs])
      | (refine Run.condM ?_; simp -implicitDefEqProofs only [h70, gt40, List.length_map, decide_eq_true h40, decide_eq_false a1, a2, decide_eq_false a3, decide_eq_false a4, hb, y1, y2, resA, linA, rs_law19_FormUnique, Bool.not_eq_true', Bool.not_eq_false', go_sem, eq_self, Nat.reduceEqDiff, Nat.reduceBEq, Nat.reduceAdd, Nat.reduceLeDiff, reduceIte, reduceCtorEq, tysA, tyA, Ty.enc, Ty.encs])
      | (refine XCall.det (keep_Lin_ok ⟨d, ts⟩ _) ?_; simp -implicitDefEqProofs only [h70, gt40, List.length_map, decide_eq_true h40, decide_eq_false a1, a2, decide_eq_false a3, decide_eq_false a4, hb, y1, y2, resA, linA, rs_law19_FormUnique, Bool.not_eq_true', Bool.not_eq_false', go_sem, eq_self, Nat.reduceEqDiff, Nat.reduceBEq, Nat.reduceAdd, Nat.reduceLeDiff, reduceIte, reduceCtorEq, tysA, tyA, Ty.enc, Ty.encs])
      | (refine XCall.det (linear_Canonical_ok ⟨d, ts⟩ _) ?_; simp -implicitDefEqProofs only [h70, gt40, List.length_map, decide_eq_true h40, decide_eq_false a1, a2, decide_eq_false a3, decide_eq_false a4, hb, y1, y2, resA, linA, rs_law19_FormUnique, Bool.not_eq_true', Bool.not_eq_false', go_sem, eq_self, Nat.reduceEqDiff, Nat.reduceBEq, Nat.reduceAdd, Nat.reduceLeDiff, reduceIte, reduceCtorEq, tysA, tyA, Ty.enc, Ty.encs])
      | (refine XCall.det (r19_Valid_ok ⟨d, ts⟩ _) ?_; simp -implicitDefEqProofs only [h70, gt40, List.length_map, decide_eq_true h40, decide_eq_false a1, a2, decide_eq_false a3, decide_eq_false a4, hb, y1, y2, resA, linA, rs_law19_FormUnique, Bool.not_eq_true', Bool.not_eq_false', go_sem, eq_self, Nat.reduceEqDiff, Nat.reduceBEq, Nat.reduceAdd, Nat.reduceLeDiff, reduceIte, reduceCtorEq, tysA, tyA, Ty.enc, Ty.encs])
      | (refine XCall.det (keep_SameLin_ok ⟨d, ts⟩ (canP ⟨d, ts⟩).1 _) ?_; simp -implicitDefEqProofs only [h70, gt40, List.length_map, decide_eq_true h40, decide_eq_false a1, a2, decide_eq_false a3, decide_eq_false a4, hb, y1, y2, resA, linA, rs_law19_FormUnique, Bool.not_eq_true', Bool.not_eq_false', go_sem, eq_self, Nat.reduceEqDiff, Nat.reduceBEq, Nat.reduceAdd, Nat.reduceLeDiff, reduceIte, reduceCtorEq, tysA, tyA, Ty.enc, Ty.encs])
      | (refine xo_gs rfl (fun h => ?_) (fun h => ?_) <;> first | (cases h; done) | simp -implicitDefEqProofs only [h70, gt40, List.length_map, decide_eq_true h40, decide_eq_false a1, a2, decide_eq_false a3, decide_eq_false a4, hb, y1, y2, resA, linA, rs_law19_FormUnique, Bool.not_eq_true', Bool.not_eq_false', go_sem, eq_self, Nat.reduceEqDiff, Nat.reduceBEq, Nat.reduceAdd, Nat.reduceLeDiff, reduceIte, reduceCtorEq, tysA, tyA, Ty.enc, Ty.encs])
      | (refine ⟨fun h => ?_, fun h => ?_⟩ <;> first | (cases h; done) | (simp -implicitDefEqProofs only [h]; done) | (try simp -implicitDefEqProofs only [h]))
      | fail))
      refine XAppM.mr (us := ts) (.inl ⟨rfl, rfl, rfl⟩) (rows_d _) (by simp; omega) (by omega) (fun v0 σ1 hm0 => ?_)
      rcases hm0 with ⟨he, _, _⟩ | ⟨j, hj, rfl, rfl⟩
      · simp at he; exact absurd he hne
      simp only [List.nil_append]
      simp -implicitDefEqProofs only [setBlk_get, go_sem, eq_self, Nat.reduceEqDiff, Nat.reduceBEq, Nat.reduceAdd, Nat.reduceLeDiff, reduceIte, reduceCtorEq, tysA, tyA, Ty.enc, Ty.encs]
      by_cases b1 : x.2 < -1073741824
      · (repeat' (first
      | refine Run.seq ?_
      | refine Run.skip ?_
      | refine Run.block ?_
      | refine Run.blk ?_
      | refine Run.scope ?_
      | refine Run.scp ?_
      | (refine Run.exit rfl ?_)
      | (refine Run.reg mixed ?_; simp -implicitDefEqProofs only [hix, g1, g2, decide_eq_true b1, rs_law19_FormUnique, Bool.not_eq_true', Bool.not_eq_false', go_sem, eq_self, Nat.reduceEqDiff, Nat.reduceBEq, Nat.reduceAdd, Nat.reduceLeDiff, reduceIte, reduceCtorEq, tysA, tyA, Ty.enc, Ty.encs])
      | (refine Run.condM ?_; simp -implicitDefEqProofs only [hix, g1, g2, decide_eq_true b1, rs_law19_FormUnique, Bool.not_eq_true', Bool.not_eq_false', go_sem, eq_self, Nat.reduceEqDiff, Nat.reduceBEq, Nat.reduceAdd, Nat.reduceLeDiff, reduceIte, reduceCtorEq, tysA, tyA, Ty.enc, Ty.encs])
      | (refine Run.retP g_law19_FormUnique (le_setBlk hj) ?_; (try simp -implicitDefEqProofs only [hix, g1, g2, decide_eq_true b1, rs_law19_FormUnique, Bool.not_eq_true', Bool.not_eq_false', go_sem, eq_self, Nat.reduceEqDiff, Nat.reduceBEq, Nat.reduceAdd, Nat.reduceLeDiff, reduceIte, reduceCtorEq, tysA, tyA, Ty.enc, Ty.encs]))
      | (refine Run.retP g_law19_FormUnique (Heap.le_refl _) ?_; simp -implicitDefEqProofs only [rs_law19_FormUnique, hix, g1, g2, decide_eq_true b1, go_sem, eq_self, Nat.reduceEqDiff, Nat.reduceBEq, Nat.reduceAdd, Nat.reduceLeDiff, reduceIte, reduceCtorEq, tysA, tyA, Ty.enc, Ty.encs])
      | (refine XCall.det (awake_ok (σ.setBlk j (prs ts)) ht) ?_; simp -implicitDefEqProofs only [hix, g1, g2, decide_eq_true b1, rs_law19_FormUnique, Bool.not_eq_true', Bool.not_eq_false', go_sem, eq_self, Nat.reduceEqDiff, Nat.reduceBEq, Nat.reduceAdd, Nat.reduceLeDiff, reduceIte, reduceCtorEq, tysA, tyA, Ty.enc, Ty.encs])
      | (refine xo_gs rfl (fun h => ?_) (fun h => ?_) <;> first | (cases h; done) | simp -implicitDefEqProofs only [hix, g1, g2, decide_eq_true b1, rs_law19_FormUnique, Bool.not_eq_true', Bool.not_eq_false', go_sem, eq_self, Nat.reduceEqDiff, Nat.reduceBEq, Nat.reduceAdd, Nat.reduceLeDiff, reduceIte, reduceCtorEq, tysA, tyA, Ty.enc, Ty.encs])
      | (refine ⟨fun h => ?_, fun h => ?_⟩ <;> first | (cases h; done) | (simp -implicitDefEqProofs only [h]; done) | (try simp -implicitDefEqProofs only [h]))
      | fail))
      by_cases b2 : 1073741824 < x.2
      · (repeat' (first
      | refine Run.seq ?_
      | refine Run.skip ?_
      | refine Run.block ?_
      | refine Run.blk ?_
      | refine Run.scope ?_
      | refine Run.scp ?_
      | (refine Run.exit rfl ?_)
      | (refine Run.reg mixed ?_; simp -implicitDefEqProofs only [hix, g1, g2, decide_eq_false b1, decide_eq_true b2, rs_law19_FormUnique, Bool.not_eq_true', Bool.not_eq_false', go_sem, eq_self, Nat.reduceEqDiff, Nat.reduceBEq, Nat.reduceAdd, Nat.reduceLeDiff, reduceIte, reduceCtorEq, tysA, tyA, Ty.enc, Ty.encs])
      | (refine Run.condM ?_; simp -implicitDefEqProofs only [hix, g1, g2, decide_eq_false b1, decide_eq_true b2, rs_law19_FormUnique, Bool.not_eq_true', Bool.not_eq_false', go_sem, eq_self, Nat.reduceEqDiff, Nat.reduceBEq, Nat.reduceAdd, Nat.reduceLeDiff, reduceIte, reduceCtorEq, tysA, tyA, Ty.enc, Ty.encs])
      | (refine Run.retP g_law19_FormUnique (le_setBlk hj) ?_; (try simp -implicitDefEqProofs only [hix, g1, g2, decide_eq_false b1, decide_eq_true b2, rs_law19_FormUnique, Bool.not_eq_true', Bool.not_eq_false', go_sem, eq_self, Nat.reduceEqDiff, Nat.reduceBEq, Nat.reduceAdd, Nat.reduceLeDiff, reduceIte, reduceCtorEq, tysA, tyA, Ty.enc, Ty.encs]))
      | (refine Run.retP g_law19_FormUnique (Heap.le_refl _) ?_; simp -implicitDefEqProofs only [rs_law19_FormUnique, hix, g1, g2, decide_eq_false b1, decide_eq_true b2, go_sem, eq_self, Nat.reduceEqDiff, Nat.reduceBEq, Nat.reduceAdd, Nat.reduceLeDiff, reduceIte, reduceCtorEq, tysA, tyA, Ty.enc, Ty.encs])
      | (refine XCall.det (awake_ok (σ.setBlk j (prs ts)) ht) ?_; simp -implicitDefEqProofs only [hix, g1, g2, decide_eq_false b1, decide_eq_true b2, rs_law19_FormUnique, Bool.not_eq_true', Bool.not_eq_false', go_sem, eq_self, Nat.reduceEqDiff, Nat.reduceBEq, Nat.reduceAdd, Nat.reduceLeDiff, reduceIte, reduceCtorEq, tysA, tyA, Ty.enc, Ty.encs])
      | (refine xo_gs rfl (fun h => ?_) (fun h => ?_) <;> first | (cases h; done) | simp -implicitDefEqProofs only [hix, g1, g2, decide_eq_false b1, decide_eq_true b2, rs_law19_FormUnique, Bool.not_eq_true', Bool.not_eq_false', go_sem, eq_self, Nat.reduceEqDiff, Nat.reduceBEq, Nat.reduceAdd, Nat.reduceLeDiff, reduceIte, reduceCtorEq, tysA, tyA, Ty.enc, Ty.encs])
      | (refine ⟨fun h => ?_, fun h => ?_⟩ <;> first | (cases h; done) | (simp -implicitDefEqProofs only [h]; done) | (try simp -implicitDefEqProofs only [h]))
      | fail))
      have hws : IntKind.i64.wrap (x.2 - c) = x.2 - c := wrap_id (by omega) (by omega)
      have hpw := prs_wr _ i _ (x.2 - c) hx
      simp only [wr, List.length_cons, List.length_nil, Nat.zero_add] at hpw
      have hle : (i * 2 + 1 + (0 + 1) ≤ (prs ts).length) = True := by rw [prs_len]; simp; omega
      have hgs : (ts.set i (x.1, x.2 - c))[i]? = some (x.1, x.2 - c) := by simp [hlt]
      obtain ⟨k1, k2⟩ := prs_get _ _ _ hgs
      simp only at k1 k2
      (repeat' (first
      | refine Run.seq ?_
      | refine Run.skip ?_
      | refine Run.block ?_
      | refine Run.blk ?_
      | refine Run.scope ?_
      | refine Run.scp ?_
      | (refine Run.exit rfl ?_)
      | (refine Run.reg mixed ?_; simp -implicitDefEqProofs only [hix, g1, g2, k1, k2, hws, hpw, hle, decide_eq_false b1, decide_eq_false b2, Nat.zero_add, rs_law19_FormUnique, Bool.not_eq_true', Bool.not_eq_false', go_sem, eq_self, Nat.reduceEqDiff, Nat.reduceBEq, Nat.reduceAdd, Nat.reduceLeDiff, reduceIte, reduceCtorEq, tysA, tyA, Ty.enc, Ty.encs])
      | (refine Run.condM ?_; simp -implicitDefEqProofs only [hix, g1, g2, k1, k2, hws, hpw, hle, decide_eq_false b1, decide_eq_false b2, Nat.zero_add, rs_law19_FormUnique, Bool.not_eq_true', Bool.not_eq_false', go_sem, eq_self, Nat.reduceEqDiff, Nat.reduceBEq, Nat.reduceAdd, Nat.reduceLeDiff, reduceIte, reduceCtorEq, tysA, tyA, Ty.enc, Ty.encs])
      | (refine xo_gs rfl (fun h => ?_) (fun h => ?_) <;> first | (cases h; done) | simp -implicitDefEqProofs only [hix, g1, g2, k1, k2, hws, hpw, hle, decide_eq_false b1, decide_eq_false b2, Nat.zero_add, rs_law19_FormUnique, Bool.not_eq_true', Bool.not_eq_false', go_sem, eq_self, Nat.reduceEqDiff, Nat.reduceBEq, Nat.reduceAdd, Nat.reduceLeDiff, reduceIte, reduceCtorEq, tysA, tyA, Ty.enc, Ty.encs])
      | (refine ⟨fun h => ?_, fun h => ?_⟩ <;> first | (cases h; done) | (simp -implicitDefEqProofs only [h]; done) | (try simp -implicitDefEqProofs only [h]))
      | fail))
      refine XAppM.mr (us := [(x.1, c)]) (ts := ts.set i (x.1, x.2 - c)) (.inr ⟨j, hj, by simp, rfl⟩) rfl (by simp; omega) (by omega) (fun v1 σ2 hm1 => ?_)
      simp -implicitDefEqProofs only [hm1.noLp.2.2.1, hm1.noLp.2.1, go_sem, eq_self, Nat.reduceEqDiff, Nat.reduceBEq, Nat.reduceAdd, Nat.reduceLeDiff, reduceIte, reduceCtorEq, tysA, tyA, Ty.enc, Ty.encs]
      refine Run.frzMR 9 hm1 (by simp; omega) rfl ?_
      have hcan := can_split (c := d) hx h40 ⟨by omega, by omega⟩ ⟨by omega, by omega⟩ (d := c)
      (repeat' (first
      | refine Run.seq ?_
      | refine Run.skip ?_
      | refine Run.block ?_
      | refine Run.blk ?_
      | refine Run.scope ?_
      | refine Run.scp ?_
      | (refine Run.exit rfl ?_)
      | (refine Run.reg mixed ?_; simp -implicitDefEqProofs only [hcan, resA, linA, tmsA, sameL_self, BEq.rfl, rs_law19_FormUnique, Bool.not_eq_true', Bool.not_eq_false', go_sem, eq_self, Nat.reduceEqDiff, Nat.reduceBEq, Nat.reduceAdd, Nat.reduceLeDiff, reduceIte, reduceCtorEq, tysA, tyA, Ty.enc, Ty.encs])
      | (refine Run.condM ?_; simp -implicitDefEqProofs only [hcan, resA, linA, tmsA, sameL_self, BEq.rfl, rs_law19_FormUnique, Bool.not_eq_true', Bool.not_eq_false', go_sem, eq_self, Nat.reduceEqDiff, Nat.reduceBEq, Nat.reduceAdd, Nat.reduceLeDiff, reduceIte, reduceCtorEq, tysA, tyA, Ty.enc, Ty.encs])
      | (refine Run.retP g_law19_FormUnique (Heap.le_refl _) ?_; simp -implicitDefEqProofs only [rs_law19_FormUnique, hcan, resA, linA, tmsA, sameL_self, BEq.rfl, go_sem, eq_self, Nat.reduceEqDiff, Nat.reduceBEq, Nat.reduceAdd, Nat.reduceLeDiff, reduceIte, reduceCtorEq, tysA, tyA, Ty.enc, Ty.encs])
      | (refine XCall.det (linear_Canonical_ok ⟨d, ts.set i (x.1, x.2 - c) ++ [(x.1, c)]⟩ _) ?_; simp -implicitDefEqProofs only [hcan, resA, linA, tmsA, sameL_self, BEq.rfl, rs_law19_FormUnique, Bool.not_eq_true', Bool.not_eq_false', go_sem, eq_self, Nat.reduceEqDiff, Nat.reduceBEq, Nat.reduceAdd, Nat.reduceLeDiff, reduceIte, reduceCtorEq, tysA, tyA, Ty.enc, Ty.encs])
      | (refine XCall.det (keep_SameLin_ok (canP ⟨d, ts⟩).1 (canP ⟨d, ts⟩).1 _) ?_; simp -implicitDefEqProofs only [hcan, resA, linA, tmsA, sameL_self, BEq.rfl, rs_law19_FormUnique, Bool.not_eq_true', Bool.not_eq_false', go_sem, eq_self, Nat.reduceEqDiff, Nat.reduceBEq, Nat.reduceAdd, Nat.reduceLeDiff, reduceIte, reduceCtorEq, tysA, tyA, Ty.enc, Ty.encs])
      | (refine XCall.det (awake_ok _ ht) ?_; simp -implicitDefEqProofs only [hcan, resA, linA, tmsA, sameL_self, BEq.rfl, rs_law19_FormUnique, Bool.not_eq_true', Bool.not_eq_false', go_sem, eq_self, Nat.reduceEqDiff, Nat.reduceBEq, Nat.reduceAdd, Nat.reduceLeDiff, reduceIte, reduceCtorEq, tysA, tyA, Ty.enc, Ty.encs])
      | (refine xo_gs rfl (fun h => ?_) (fun h => ?_) <;> first | (cases h; done) | simp -implicitDefEqProofs only [hcan, resA, linA, tmsA, sameL_self, BEq.rfl, rs_law19_FormUnique, Bool.not_eq_true', Bool.not_eq_false', go_sem, eq_self, Nat.reduceEqDiff, Nat.reduceBEq, Nat.reduceAdd, Nat.reduceLeDiff, reduceIte, reduceCtorEq, tysA, tyA, Ty.enc, Ty.encs])
      | (refine ⟨fun h => ?_, fun h => ?_⟩ <;> first | (cases h; done) | (simp -implicitDefEqProofs only [h]; done) | (try simp -implicitDefEqProofs only [h]))
      | fail))
  exact main rfl
end Go.Ab

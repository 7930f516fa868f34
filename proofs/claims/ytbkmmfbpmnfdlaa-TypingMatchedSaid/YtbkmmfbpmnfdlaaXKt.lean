/- The guard on the number of nodes of a type: typ counts down, Type and Types report. Conditions: the counter is small. -/
import Derived.Test.YtbkmmfbpmnfdlaaXSz
set_option linter.unusedSimpArgs false
set_option linter.unusedVariables false
namespace Go.Ab
open Go.Proofs

theorem wrap_sub1 {a : Nat} (h : a ≤ 9000000000000000000) : IntKind.i64.wrap ((a : Int) - 1) = (a : Int) - 1 := by
  cases a with
  | zero => decide
  | succ a => rw [wrap_pos (by omega) (by omega)]

/-- What the counter shows behind a look at n nodes. -/
def leftOf (n s : Nat) : Int := if s ≤ n then (n : Int) - s else -1

theorem keep_typ_loop (n : Nat) (j : Nat) (ih : ∀ (m : Nat), m < n + 1 → ∀ (t : Ty) (σ : Heap), σ.blk j = some [.d (.int .i64 m)] →
      ACalls Try.prog 17 [tyA t, .gp j 0] σ (fun v σ' => v = .d (.bool (decide (t.size ≤ m))) ∧ σ' = σ.setBlk j [.d (.int .i64 (leftOf m t.size))]))
    (l : List Ty) (kd nm : Int) (hn : n ≤ 1000000) (σ : Heap) (K : AV → Heap → Prop) {k : List CI}
    (hno : ¬ Ty.sizes l ≤ n → K (.d (.bool false)) (σ.setBlk j [.d (.int .i64 (-1))]))
    (hk : Ty.sizes l ≤ n → ∀ F L, Run x_keep_typ K k F L (σ.setBlk j [.d (.int .i64 ((n : Int) - Ty.sizes l))])) :
    ∀ (m i : Nat), m + i = l.length → Ty.sizes (l.take i) ≤ n → Run x_keep_typ K (.again c_keep_typ_L0 :: .blk 0 :: k)
      (put 1 (.gp j 0) (put 2 (.lp 2 0) (put 5 (.d (.int .i64 i)) U))) (putL 2 [.d (.int .i64 kd), .d (.int .i64 nm), tysA l] E) (σ.setBlk j [.d (.int .i64 ((n : Int) - Ty.sizes (l.take i)))]) := by
  intro m
  induction m with
  | zero =>
    intro i hi hs
    refine Run.again ?_
    (repeat (first
      | refine Run.seq ?_
      | refine Run.skip ?_
      | refine Run.block ?_
      | refine Run.blk ?_
      | (refine Run.exit rfl ?_)
      | (refine Run.reg mixed ?_; simp -implicitDefEqProofs only [go_sem, eq_self, Nat.reduceEqDiff, Nat.reduceBEq, Nat.reduceAdd, Nat.reduceLeDiff, reduceIte, reduceCtorEq, tysA, tyA, Ty.enc, Ty.encs])
      | (refine Run.condM ?_; simp -implicitDefEqProofs only [go_sem, eq_self, Nat.reduceEqDiff, Nat.reduceBEq, Nat.reduceAdd, Nat.reduceLeDiff, reduceIte, reduceCtorEq, tysA, tyA, Ty.enc, Ty.encs])))
    refine ⟨fun h => ?_, fun h => ?_⟩
    · simp [encs_len] at h; omega
    · (repeat (first
      | refine Run.seq ?_
      | refine Run.skip ?_
      | refine Run.block ?_
      | refine Run.blk ?_
      | (refine Run.exit rfl ?_)
      | (refine Run.reg mixed ?_; simp -implicitDefEqProofs only [go_sem, eq_self, Nat.reduceEqDiff, Nat.reduceBEq, Nat.reduceAdd, Nat.reduceLeDiff, reduceIte, reduceCtorEq, tysA, tyA, Ty.enc, Ty.encs])
      | (refine Run.condM ?_; simp -implicitDefEqProofs only [go_sem, eq_self, Nat.reduceEqDiff, Nat.reduceBEq, Nat.reduceAdd, Nat.reduceLeDiff, reduceIte, reduceCtorEq, tysA, tyA, Ty.enc, Ty.encs])))
      have : l.take i = l := List.take_of_length_le (by omega)
      rw [this] at hs ⊢
      exact hk hs _ _
  | succ m ihm =>
    intro i hi hs
    have hlt : i < l.length := by omega
    obtain ⟨t, ht⟩ : ∃ t, l[i]? = some t := ⟨l[i], by simp [hlt]⟩
    have hsz := sizes_get ht
    have hs1 : Ty.sizes (l.take (i + 1)) = Ty.sizes (l.take i) + t.size := by rw [take_snoc ht, sizes_snoc]
    obtain ⟨kd', nm', al⟩ := t
    have he := encs_at ht
    have hpos := size_pos (.mk kd' nm' al)
    obtain ⟨q, hq⟩ : ∃ q : Nat, (n : Int) - Ty.sizes (l.take i) = q := ⟨n - Ty.sizes (l.take i), by omega⟩
    refine Run.again ?_
    (repeat (first
      | refine Run.seq ?_
      | refine Run.skip ?_
      | refine Run.block ?_
      | refine Run.blk ?_
      | (refine Run.exit rfl ?_)
      | (refine Run.reg mixed ?_; simp -implicitDefEqProofs only [go_sem, eq_self, Nat.reduceEqDiff, Nat.reduceBEq, Nat.reduceAdd, Nat.reduceLeDiff, reduceIte, reduceCtorEq, tysA, tyA, Ty.enc, Ty.encs])
      | (refine Run.condM ?_; simp -implicitDefEqProofs only [go_sem, eq_self, Nat.reduceEqDiff, Nat.reduceBEq, Nat.reduceAdd, Nat.reduceLeDiff, reduceIte, reduceCtorEq, tysA, tyA, Ty.enc, Ty.encs])))
    refine ⟨fun h => ?_, fun h => ?_⟩
    · refine Run.slot 5 (fun hb => ?_)
      (repeat (first
      | refine Run.seq ?_
      | refine Run.skip ?_
      | refine Run.block ?_
      | refine Run.blk ?_
      | (refine Run.exit rfl ?_)
      | (refine Run.reg mixed ?_; simp -implicitDefEqProofs only [go_sem, eq_self, Nat.reduceEqDiff, Nat.reduceBEq, Nat.reduceAdd, Nat.reduceLeDiff, reduceIte, reduceCtorEq, tysA, tyA, Ty.enc, Ty.encs])
      | (refine Run.condM ?_; simp -implicitDefEqProofs only [go_sem, eq_self, Nat.reduceEqDiff, Nat.reduceBEq, Nat.reduceAdd, Nat.reduceLeDiff, reduceIte, reduceCtorEq, tysA, tyA, Ty.enc, Ty.encs])))
      simp -implicitDefEqProofs only [he, go_sem, eq_self, Nat.reduceEqDiff, Nat.reduceBEq, Nat.reduceAdd, Nat.reduceLeDiff, reduceIte, reduceCtorEq, tysA, tyA, Ty.enc, Ty.encs]
      rw [hq]
      refine XCall.mk rfl (ih q (by omega) (.mk kd' nm' al) _ (by simp -implicitDefEqProofs only [go_sem, eq_self, Nat.reduceEqDiff, Nat.reduceBEq, Nat.reduceAdd, Nat.reduceLeDiff, reduceIte, reduceCtorEq, tysA, tyA, Ty.enc, Ty.encs])) ?_
      rintro v σ' ⟨rfl, rfl⟩
      simp -implicitDefEqProofs only [go_sem, eq_self, Nat.reduceEqDiff, Nat.reduceBEq, Nat.reduceAdd, Nat.reduceLeDiff, reduceIte, reduceCtorEq, tysA, tyA, Ty.enc, Ty.encs]
      (repeat (first
      | refine Run.seq ?_
      | refine Run.skip ?_
      | refine Run.block ?_
      | refine Run.blk ?_
      | (refine Run.exit rfl ?_)
      | (refine Run.reg mixed ?_; simp -implicitDefEqProofs only [go_sem, eq_self, Nat.reduceEqDiff, Nat.reduceBEq, Nat.reduceAdd, Nat.reduceLeDiff, reduceIte, reduceCtorEq, tysA, tyA, Ty.enc, Ty.encs])
      | (refine Run.condM ?_; simp -implicitDefEqProofs only [go_sem, eq_self, Nat.reduceEqDiff, Nat.reduceBEq, Nat.reduceAdd, Nat.reduceLeDiff, reduceIte, reduceCtorEq, tysA, tyA, Ty.enc, Ty.encs])))
      refine ⟨fun h => ?_, fun h => ?_⟩
      · (repeat (first
      | refine Run.seq ?_
      | refine Run.skip ?_
      | refine Run.block ?_
      | refine Run.blk ?_
      | (refine Run.exit rfl ?_)
      | (refine Run.reg mixed ?_; simp -implicitDefEqProofs only [go_sem, eq_self, Nat.reduceEqDiff, Nat.reduceBEq, Nat.reduceAdd, Nat.reduceLeDiff, reduceIte, reduceCtorEq, tysA, tyA, Ty.enc, Ty.encs])
      | (refine Run.condM ?_; simp -implicitDefEqProofs only [go_sem, eq_self, Nat.reduceEqDiff, Nat.reduceBEq, Nat.reduceAdd, Nat.reduceLeDiff, reduceIte, reduceCtorEq, tysA, tyA, Ty.enc, Ty.encs])))
        refine Run.retP g_keep_typ (Heap.le_refl _) ?_
        simp only [Bool.not_eq_true', decide_eq_false_iff_not] at h
        simp -implicitDefEqProofs only [rs_keep_typ, leftOf, h, go_sem, eq_self, Nat.reduceEqDiff, Nat.reduceBEq, Nat.reduceAdd, Nat.reduceLeDiff, reduceIte, reduceCtorEq, tysA, tyA, Ty.enc, Ty.encs]
        exact hno (by omega)
      · simp only [Bool.not_eq_false', decide_eq_true_eq] at h
        (repeat (first
      | refine Run.seq ?_
      | refine Run.skip ?_
      | refine Run.block ?_
      | refine Run.blk ?_
      | (refine Run.exit rfl ?_)
      | (refine Run.reg mixed ?_; simp -implicitDefEqProofs only [go_sem, eq_self, Nat.reduceEqDiff, Nat.reduceBEq, Nat.reduceAdd, Nat.reduceLeDiff, reduceIte, reduceCtorEq, tysA, tyA, Ty.enc, Ty.encs])
      | (refine Run.condM ?_; simp -implicitDefEqProofs only [go_sem, eq_self, Nat.reduceEqDiff, Nat.reduceBEq, Nat.reduceAdd, Nat.reduceLeDiff, reduceIte, reduceCtorEq, tysA, tyA, Ty.enc, Ty.encs])))
        have h2 : i + 1 ≤ 1000001 := by
          have := len_sizes (l.take i)
          simp at this
          omega
        rw [wrap_succ (by omega)]
        have := ihm (i + 1) (by omega) (by omega)
        have e : leftOf q (Ty.mk kd' nm' al).size = (n : Int) - Ty.sizes (l.take (i + 1)) := by
          simp only [leftOf, h, if_true]; omega
        rw [e]
        exact this
    · simp [encs_len] at h; omega

theorem keep_typ_ok (j : Nat) (n : Nat) : n ≤ 1000000 → ∀ (t : Ty) (σ : Heap), σ.blk j = some [.d (.int .i64 n)] →
    ACalls Try.prog 17 [tyA t, .gp j 0] σ (fun v σ' => v = .d (.bool (decide (t.size ≤ n))) ∧ σ' = σ.setBlk j [.d (.int .i64 (leftOf n t.size))]) := by
  induction n using Nat.strongRecOn with
  | _ n ih =>
    intro hn t σ hb
    obtain ⟨kd, nm, l⟩ := t
    refine i_keep_typ (by simp) ?_
    rw [argF_2]
    (repeat (first
      | refine Run.seq ?_
      | refine Run.skip ?_
      | refine Run.block ?_
      | refine Run.blk ?_
      | (refine Run.exit rfl ?_)
      | (refine Run.reg mixed ?_; simp -implicitDefEqProofs only [go_sem, eq_self, Nat.reduceEqDiff, Nat.reduceBEq, Nat.reduceAdd, Nat.reduceLeDiff, reduceIte, reduceCtorEq, tysA, tyA, Ty.enc, Ty.encs])
      | (refine Run.condM ?_; simp -implicitDefEqProofs only [go_sem, eq_self, Nat.reduceEqDiff, Nat.reduceBEq, Nat.reduceAdd, Nat.reduceLeDiff, reduceIte, reduceCtorEq, tysA, tyA, Ty.enc, Ty.encs])))
    simp -implicitDefEqProofs only [hb, go_sem, eq_self, Nat.reduceEqDiff, Nat.reduceBEq, Nat.reduceAdd, Nat.reduceLeDiff, reduceIte, reduceCtorEq, tysA, tyA, Ty.enc, Ty.encs]
    (repeat (first
      | refine Run.seq ?_
      | refine Run.skip ?_
      | refine Run.block ?_
      | refine Run.blk ?_
      | (refine Run.exit rfl ?_)
      | (refine Run.reg mixed ?_; simp -implicitDefEqProofs only [go_sem, eq_self, Nat.reduceEqDiff, Nat.reduceBEq, Nat.reduceAdd, Nat.reduceLeDiff, reduceIte, reduceCtorEq, tysA, tyA, Ty.enc, Ty.encs])
      | (refine Run.condM ?_; simp -implicitDefEqProofs only [go_sem, eq_self, Nat.reduceEqDiff, Nat.reduceBEq, Nat.reduceAdd, Nat.reduceLeDiff, reduceIte, reduceCtorEq, tysA, tyA, Ty.enc, Ty.encs])))
    rw [wrap_sub1 (by omega)]
    refine ⟨fun h => ?_, fun h => ?_⟩
    · simp only [decide_eq_true_eq] at h
      have h0 : n = 0 := by omega
      subst h0
      (repeat (first
      | refine Run.seq ?_
      | refine Run.skip ?_
      | refine Run.block ?_
      | refine Run.blk ?_
      | (refine Run.exit rfl ?_)
      | (refine Run.reg mixed ?_; simp -implicitDefEqProofs only [go_sem, eq_self, Nat.reduceEqDiff, Nat.reduceBEq, Nat.reduceAdd, Nat.reduceLeDiff, reduceIte, reduceCtorEq, tysA, tyA, Ty.enc, Ty.encs])
      | (refine Run.condM ?_; simp -implicitDefEqProofs only [go_sem, eq_self, Nat.reduceEqDiff, Nat.reduceBEq, Nat.reduceAdd, Nat.reduceLeDiff, reduceIte, reduceCtorEq, tysA, tyA, Ty.enc, Ty.encs])))
      refine Run.retP g_keep_typ (Heap.le_refl _) ?_
      have e : ¬ (1 + Ty.sizes l ≤ 0) := by omega
      simp -implicitDefEqProofs only [rs_keep_typ, leftOf, Ty.size, e, go_sem, eq_self, Nat.reduceEqDiff, Nat.reduceBEq, Nat.reduceAdd, Nat.reduceLeDiff, reduceIte, reduceCtorEq, tysA, tyA, Ty.enc, Ty.encs]
      simp
    · simp only [decide_eq_false_iff_not] at h
      (repeat (first
      | refine Run.seq ?_
      | refine Run.skip ?_
      | refine Run.block ?_
      | refine Run.blk ?_
      | (refine Run.exit rfl ?_)
      | (refine Run.reg mixed ?_; simp -implicitDefEqProofs only [go_sem, eq_self, Nat.reduceEqDiff, Nat.reduceBEq, Nat.reduceAdd, Nat.reduceLeDiff, reduceIte, reduceCtorEq, tysA, tyA, Ty.enc, Ty.encs])
      | (refine Run.condM ?_; simp -implicitDefEqProofs only [go_sem, eq_self, Nat.reduceEqDiff, Nat.reduceBEq, Nat.reduceAdd, Nat.reduceLeDiff, reduceIte, reduceCtorEq, tysA, tyA, Ty.enc, Ty.encs])))
      refine Run.loopA ?_
      obtain ⟨n, rfl⟩ : ∃ q, n = q + 1 := ⟨n - 1, by omega⟩
      have := keep_typ_loop n j (fun m hm t σ hb => ih m (by omega) (by omega) t σ hb) l kd nm (by omega) σ (fun v σ' => v = .d (.bool (decide (1 + Ty.sizes l ≤ n + 1))) ∧ σ' = σ.setBlk j [.d (.int .i64 (leftOf (n + 1) (1 + Ty.sizes l)))])
        (k := [.code (.seq (.reg [⟨some 4, .mv (.c (.d (.bool true))), none⟩] [4]) .ret)])
        (fun h => by
          have e : ¬ (1 + Ty.sizes l ≤ n + 1) := by omega
          simp [leftOf, e])
        (fun h F L => by
          (repeat (first
      | refine Run.seq ?_
      | refine Run.skip ?_
      | refine Run.block ?_
      | refine Run.blk ?_
      | (refine Run.exit rfl ?_)
      | (refine Run.reg mixed ?_; simp -implicitDefEqProofs only [go_sem, eq_self, Nat.reduceEqDiff, Nat.reduceBEq, Nat.reduceAdd, Nat.reduceLeDiff, reduceIte, reduceCtorEq, tysA, tyA, Ty.enc, Ty.encs])
      | (refine Run.condM ?_; simp -implicitDefEqProofs only [go_sem, eq_self, Nat.reduceEqDiff, Nat.reduceBEq, Nat.reduceAdd, Nat.reduceLeDiff, reduceIte, reduceCtorEq, tysA, tyA, Ty.enc, Ty.encs])))
          refine Run.retP g_keep_typ (Heap.le_refl _) ?_
          have e : (1 + Ty.sizes l ≤ n + 1) := by omega
          simp -implicitDefEqProofs only [rs_keep_typ, leftOf, e, go_sem, eq_self, Nat.reduceEqDiff, Nat.reduceBEq, Nat.reduceAdd, Nat.reduceLeDiff, reduceIte, reduceCtorEq, tysA, tyA, Ty.enc, Ty.encs]
          congr 4
          omega) l.length 0 (by omega) (by simp [Ty.sizes])
      simp only [List.take_zero, Ty.sizes] at this
      have e : ((n + 1 : Nat) : Int) - 1 = (n : Int) - ((0 : Nat) : Int) := by omega
      rw [e]
      exact this
end Go.Ab

/- substSize: the size of a type with types put in, exact up to the bound of 200. Conditions: the types are small. -/
import Derived.Test.YtbkmmfbpmnfdlaaXRs
set_option linter.unusedSimpArgs false
set_option linter.unusedVariables false
namespace Go.Ab
open Go.Proofs

def szsA (args : List Ty) : List AV := args.map fun a => .d (.int .i64 (a.size : Int))

def SubSz (s : Nat) (t : Nat) : Prop := s ≤ t ∧ (s ≤ 200 → s = t)

theorem substs_append (args : List Ty) : ∀ (l m : List Ty), Ty.substs args (l ++ m) = Ty.substs args l ++ Ty.substs args m
  | [], m => rfl
  | u :: l, m => by simp [Ty.substs, substs_append args l m]

theorem typing_substSize_loop (n : Nat) (args : List Ty) (j : Nat) (σ : Heap)
    (ih : ∀ (t : Ty), t.size ≤ n → (t.subst args).size ≤ 1000000 → ACalls Try.prog 19 [tyA t, .ms j args.length] σ (fun v σ' => (∃ s : Nat, v = .d (.int .i64 s) ∧ SubSz s (t.subst args).size) ∧ σ' = σ))
    (l : List Ty) (hl : Ty.sizes l ≤ n) (hn : n ≤ 1000000) (hb : 1 + Ty.sizes (Ty.substs args l) ≤ 1000000) (K : AV → Heap → Prop) {k : List CI}
    (hk : ∀ F L (s : Nat), SubSz s (1 + Ty.sizes (Ty.substs args l)) → F 5 = .d (.int .i64 s) → Run x_typing_substSize K k F L σ) :
    ∀ (m i : Nat), m + i = l.length → Run x_typing_substSize K (.again c_typing_substSize_L0 :: .blk 0 :: k)
      (put 1 (.ms j args.length) (put 5 (.d (.int .i64 ((1 + Ty.sizes (Ty.substs args (l.take i)) : Nat) : Int))) (put 29 (tysA l) (put 30 (.d (.int .i64 l.length)) (put 31 (.d (.int .i64 i)) U))))) E σ := by
  intro m
  have hll := len_sizes l
  induction m with
  | zero =>
    intro i hi
    refine Run.again ?_
    (repeat (first
      | refine Run.seq ?_
      | refine Run.skip ?_
      | refine Run.block ?_
      | refine Run.blk ?_
      | (refine Run.exit rfl ?_)
      | (refine Run.reg mixed ?_; simp -implicitDefEqProofs only [go_sem, eq_self, Nat.reduceEqDiff, Nat.reduceBEq, Nat.reduceAdd, Nat.reduceLeDiff, reduceIte, reduceCtorEq, tysA, tyA, Ty.enc, Ty.encs])
      | (refine Run.condM ?_; simp -implicitDefEqProofs only [go_sem, eq_self, Nat.reduceEqDiff, Nat.reduceBEq, Nat.reduceAdd, Nat.reduceLeDiff, reduceIte, reduceCtorEq, tysA, tyA, Ty.enc, Ty.encs])))
    refine ⟨fun h => ?_, fun h => ?_⟩
    · simp at h; omega
    · (repeat (first
      | refine Run.seq ?_
      | refine Run.skip ?_
      | refine Run.block ?_
      | refine Run.blk ?_
      | (refine Run.exit rfl ?_)
      | (refine Run.reg mixed ?_; simp -implicitDefEqProofs only [go_sem, eq_self, Nat.reduceEqDiff, Nat.reduceBEq, Nat.reduceAdd, Nat.reduceLeDiff, reduceIte, reduceCtorEq, tysA, tyA, Ty.enc, Ty.encs])
      | (refine Run.condM ?_; simp -implicitDefEqProofs only [go_sem, eq_self, Nat.reduceEqDiff, Nat.reduceBEq, Nat.reduceAdd, Nat.reduceLeDiff, reduceIte, reduceCtorEq, tysA, tyA, Ty.enc, Ty.encs])))
      have : l.take i = l := List.take_of_length_le (by omega)
      rw [this]
      exact hk _ _ _ ⟨Nat.le_refl _, fun _ => rfl⟩ rfl
  | succ m ihm =>
    intro i hi
    have hlt : i < l.length := by omega
    obtain ⟨t, ht⟩ : ∃ t, l[i]? = some t := ⟨l[i], by simp [hlt]⟩
    have hs1 : Ty.sizes (Ty.substs args (l.take (i + 1))) = Ty.sizes (Ty.substs args (l.take i)) + (t.subst args).size := by rw [take_snoc ht, substs_snoc, sizes_snoc]
    have hs2 : Ty.sizes (Ty.substs args (l.take (i + 1))) ≤ Ty.sizes (Ty.substs args l) := by
      conv => rhs; rw [← List.take_append_drop (i + 1) l, substs_append, sizes_append]
      omega
    have hsz := sizes_get ht
    obtain ⟨kd', nm', al⟩ := t
    have he := encs_at ht
    refine Run.again ?_
    (repeat (first
      | refine Run.seq ?_
      | refine Run.skip ?_
      | refine Run.block ?_
      | refine Run.blk ?_
      | (refine Run.exit rfl ?_)
      | (refine Run.reg mixed ?_; simp -implicitDefEqProofs only [go_sem, eq_self, Nat.reduceEqDiff, Nat.reduceBEq, Nat.reduceAdd, Nat.reduceLeDiff, reduceIte, reduceCtorEq, tysA, tyA, Ty.enc, Ty.encs])
      | (refine Run.condM ?_; simp -implicitDefEqProofs only [go_sem, eq_self, Nat.reduceEqDiff, Nat.reduceBEq, Nat.reduceAdd, Nat.reduceLeDiff, reduceIte, reduceCtorEq, tysA, tyA, Ty.enc, Ty.encs])))
    refine ⟨fun h => ?_, fun h => ?_⟩
    · (repeat (first
      | refine Run.seq ?_
      | refine Run.skip ?_
      | refine Run.block ?_
      | refine Run.blk ?_
      | (refine Run.exit rfl ?_)
      | (refine Run.reg mixed ?_; simp -implicitDefEqProofs only [go_sem, eq_self, Nat.reduceEqDiff, Nat.reduceBEq, Nat.reduceAdd, Nat.reduceLeDiff, reduceIte, reduceCtorEq, tysA, tyA, Ty.enc, Ty.encs])
      | (refine Run.condM ?_; simp -implicitDefEqProofs only [go_sem, eq_self, Nat.reduceEqDiff, Nat.reduceBEq, Nat.reduceAdd, Nat.reduceLeDiff, reduceIte, reduceCtorEq, tysA, tyA, Ty.enc, Ty.encs])))
      simp -implicitDefEqProofs only [he, go_sem, eq_self, Nat.reduceEqDiff, Nat.reduceBEq, Nat.reduceAdd, Nat.reduceLeDiff, reduceIte, reduceCtorEq, tysA, tyA, Ty.enc, Ty.encs]
      (repeat (first
      | refine Run.seq ?_
      | refine Run.skip ?_
      | refine Run.block ?_
      | refine Run.blk ?_
      | (refine Run.exit rfl ?_)
      | (refine Run.reg mixed ?_; simp -implicitDefEqProofs only [go_sem, eq_self, Nat.reduceEqDiff, Nat.reduceBEq, Nat.reduceAdd, Nat.reduceLeDiff, reduceIte, reduceCtorEq, tysA, tyA, Ty.enc, Ty.encs])
      | (refine Run.condM ?_; simp -implicitDefEqProofs only [go_sem, eq_self, Nat.reduceEqDiff, Nat.reduceBEq, Nat.reduceAdd, Nat.reduceLeDiff, reduceIte, reduceCtorEq, tysA, tyA, Ty.enc, Ty.encs])))
      refine XCall.mk rfl (ih (.mk kd' nm' al) (by omega) (by omega)) ?_
      rintro v σ' ⟨⟨s, rfl, hs⟩, rfl⟩
      simp -implicitDefEqProofs only [go_sem, eq_self, Nat.reduceEqDiff, Nat.reduceBEq, Nat.reduceAdd, Nat.reduceLeDiff, reduceIte, reduceCtorEq, tysA, tyA, Ty.enc, Ty.encs]
      (repeat (first
      | refine Run.seq ?_
      | refine Run.skip ?_
      | refine Run.block ?_
      | refine Run.blk ?_
      | (refine Run.exit rfl ?_)
      | (refine Run.reg mixed ?_; simp -implicitDefEqProofs only [go_sem, eq_self, Nat.reduceEqDiff, Nat.reduceBEq, Nat.reduceAdd, Nat.reduceLeDiff, reduceIte, reduceCtorEq, tysA, tyA, Ty.enc, Ty.encs])
      | (refine Run.condM ?_; simp -implicitDefEqProofs only [go_sem, eq_self, Nat.reduceEqDiff, Nat.reduceBEq, Nat.reduceAdd, Nat.reduceLeDiff, reduceIte, reduceCtorEq, tysA, tyA, Ty.enc, Ty.encs])))
      rw [wrap_add (by have := hs.1; omega)]
      refine ⟨fun h => ?_, fun h => ?_⟩
      · (repeat (first
      | refine Run.seq ?_
      | refine Run.skip ?_
      | refine Run.block ?_
      | refine Run.blk ?_
      | (refine Run.exit rfl ?_)
      | (refine Run.reg mixed ?_; simp -implicitDefEqProofs only [go_sem, eq_self, Nat.reduceEqDiff, Nat.reduceBEq, Nat.reduceAdd, Nat.reduceLeDiff, reduceIte, reduceCtorEq, tysA, tyA, Ty.enc, Ty.encs])
      | (refine Run.condM ?_; simp -implicitDefEqProofs only [go_sem, eq_self, Nat.reduceEqDiff, Nat.reduceBEq, Nat.reduceAdd, Nat.reduceLeDiff, reduceIte, reduceCtorEq, tysA, tyA, Ty.enc, Ty.encs])))
        simp only [decide_eq_true_eq] at h
        refine hk _ _ (1 + Ty.sizes (Ty.substs args (l.take i)) + s) ⟨by have := hs.1; omega, fun h2 => by omega⟩ rfl
      · (repeat (first
      | refine Run.seq ?_
      | refine Run.skip ?_
      | refine Run.block ?_
      | refine Run.blk ?_
      | (refine Run.exit rfl ?_)
      | (refine Run.reg mixed ?_; simp -implicitDefEqProofs only [go_sem, eq_self, Nat.reduceEqDiff, Nat.reduceBEq, Nat.reduceAdd, Nat.reduceLeDiff, reduceIte, reduceCtorEq, tysA, tyA, Ty.enc, Ty.encs])
      | (refine Run.condM ?_; simp -implicitDefEqProofs only [go_sem, eq_self, Nat.reduceEqDiff, Nat.reduceBEq, Nat.reduceAdd, Nat.reduceLeDiff, reduceIte, reduceCtorEq, tysA, tyA, Ty.enc, Ty.encs])))
        simp only [decide_eq_false_iff_not] at h
        have := ihm (i + 1) (by omega)
        have e := hs.2 (by omega)
        subst e
        rw [hs1] at this
        rw [wrap_succ (by omega), Nat.add_assoc]
        exact this
    · simp at h; omega

theorem typing_substSize_ok (args : List Ty) (j : Nat) (σ : Heap) (hj : σ.blk j = some (szsA args)) (n : Nat) : ∀ (t : Ty), t.size ≤ n → n ≤ 1000000 → (t.subst args).size ≤ 1000000 →
    ACalls Try.prog 19 [tyA t, .ms j args.length] σ (fun v σ' => (∃ s : Nat, v = .d (.int .i64 s) ∧ SubSz s (t.subst args).size) ∧ σ' = σ) := by
  induction n with
  | zero => intro t h; have := size_pos t; omega
  | succ n ih =>
    intro t ht hn hb
    obtain ⟨kd, nm, l⟩ := t
    have hsl : Ty.sizes l ≤ n := by simp only [Ty.size] at ht; omega
    refine i_typing_substSize (by simp) ?_
    rw [argF_2]
    (repeat (first
      | refine Run.seq ?_
      | refine Run.skip ?_
      | refine Run.block ?_
      | refine Run.blk ?_
      | (refine Run.exit rfl ?_)))
    (refine Run.reg mixed ?_; simp -implicitDefEqProofs only [go_sem, eq_self, Nat.reduceEqDiff, Nat.reduceBEq, Nat.reduceAdd, Nat.reduceLeDiff, reduceIte, reduceCtorEq, tysA, tyA, Ty.enc, Ty.encs])
    (repeat (first
      | refine Run.seq ?_
      | refine Run.skip ?_
      | refine Run.block ?_
      | refine Run.blk ?_
      | (refine Run.exit rfl ?_)))
    refine Run.regCut mixed (put 1 (.ms j args.length) (put 2 (.lp 2 0) (put 22 (.d (.bool ((kd == 4) && decide (0 ≤ nm) && decide (nm < args.length)))) U)))
      (putL 2 [.d (.int .i64 kd), .d (.int .i64 nm), tysA l] E) σ ?_ ?_
    · cases h1 : (kd == 4)
      · simp -implicitDefEqProofs only [h1, go_sem, eq_self, Nat.reduceEqDiff, Nat.reduceBEq, Nat.reduceAdd, Nat.reduceLeDiff, reduceIte, reduceCtorEq, tysA, tyA, Ty.enc, Ty.encs]
      · cases h2 : decide (0 ≤ nm)
        · simp -implicitDefEqProofs only [h1, h2, go_sem, eq_self, Nat.reduceEqDiff, Nat.reduceBEq, Nat.reduceAdd, Nat.reduceLeDiff, reduceIte, reduceCtorEq, tysA, tyA, Ty.enc, Ty.encs]
        · simp -implicitDefEqProofs only [h1, h2, encs_len, go_sem, eq_self, Nat.reduceEqDiff, Nat.reduceBEq, Nat.reduceAdd, Nat.reduceLeDiff, reduceIte, reduceCtorEq, tysA, tyA, Ty.enc, Ty.encs]
    · (repeat (first
      | refine Run.seq ?_
      | refine Run.skip ?_
      | refine Run.block ?_
      | refine Run.blk ?_
      | (refine Run.exit rfl ?_)
      | (refine Run.reg mixed ?_; simp -implicitDefEqProofs only [go_sem, eq_self, Nat.reduceEqDiff, Nat.reduceBEq, Nat.reduceAdd, Nat.reduceLeDiff, reduceIte, reduceCtorEq, tysA, tyA, Ty.enc, Ty.encs])
      | (refine Run.condM ?_; simp -implicitDefEqProofs only [go_sem, eq_self, Nat.reduceEqDiff, Nat.reduceBEq, Nat.reduceAdd, Nat.reduceLeDiff, reduceIte, reduceCtorEq, tysA, tyA, Ty.enc, Ty.encs])))
      refine ⟨fun h => ?_, fun h => ?_⟩
      · simp only [Bool.and_eq_true, beq_iff_eq, decide_eq_true_eq] at h
        obtain ⟨⟨h1, h2⟩, h3⟩ := h
        obtain ⟨i, rfl⟩ := Int.eq_ofNat_of_zero_le h2
        have hlt : i < args.length := by omega
        obtain ⟨t, ht⟩ : ∃ t, args[i]? = some t := ⟨args[i], by simp [hlt]⟩
        have hsub : (Ty.mk kd i l).subst args = t := by
          simp only [Ty.subst]; rw [if_pos ⟨h1, h2, h3⟩]; simp [ht]
        have hc : (szsA args)[i * 1]? = some (.d (.int .i64 (t.size : Int))) := by simp [szsA, ht]
        rw [hsub]
        (repeat (first
      | refine Run.seq ?_
      | refine Run.skip ?_
      | refine Run.block ?_
      | refine Run.blk ?_
      | (refine Run.exit rfl ?_)
      | (refine Run.reg mixed ?_; simp -implicitDefEqProofs only [hj, h3, hc, go_sem, eq_self, Nat.reduceEqDiff, Nat.reduceBEq, Nat.reduceAdd, Nat.reduceLeDiff, reduceIte, reduceCtorEq, tysA, tyA, Ty.enc, Ty.encs])
      | (refine Run.condM ?_; simp -implicitDefEqProofs only [hj, h3, hc, go_sem, eq_self, Nat.reduceEqDiff, Nat.reduceBEq, Nat.reduceAdd, Nat.reduceLeDiff, reduceIte, reduceCtorEq, tysA, tyA, Ty.enc, Ty.encs])))
        refine Run.retP g_typing_substSize (Heap.le_refl _) ?_
        simp -implicitDefEqProofs only [rs_typing_substSize, go_sem, eq_self, Nat.reduceEqDiff, Nat.reduceBEq, Nat.reduceAdd, Nat.reduceLeDiff, reduceIte, reduceCtorEq, tysA, tyA, Ty.enc, Ty.encs]
        exact ⟨t.size, rfl, Nat.le_refl _, fun _ => rfl⟩
      · have hno : ¬ (kd = 4 ∧ 0 ≤ nm ∧ nm < args.length) := by
          simp only [Bool.and_eq_false_iff, beq_eq_false_iff_ne, decide_eq_false_iff_not] at h
          omega
        have hsub : (Ty.mk kd nm l).subst args = .mk kd nm (Ty.substs args l) := by simp only [Ty.subst]; rw [if_neg hno]
        rw [hsub] at hb ⊢
        simp only [Ty.size] at hb ⊢
        (repeat (first
      | refine Run.seq ?_
      | refine Run.skip ?_
      | refine Run.block ?_
      | refine Run.blk ?_
      | (refine Run.exit rfl ?_)
      | (refine Run.reg mixed ?_; simp -implicitDefEqProofs only [go_sem, eq_self, Nat.reduceEqDiff, Nat.reduceBEq, Nat.reduceAdd, Nat.reduceLeDiff, reduceIte, reduceCtorEq, tysA, tyA, Ty.enc, Ty.encs])
      | (refine Run.condM ?_; simp -implicitDefEqProofs only [go_sem, eq_self, Nat.reduceEqDiff, Nat.reduceBEq, Nat.reduceAdd, Nat.reduceLeDiff, reduceIte, reduceCtorEq, tysA, tyA, Ty.enc, Ty.encs])))
        refine Run.loopA ?_
        rw [encs_len]
        refine typing_substSize_loop n args j σ (fun t h h2 => ih t h (by omega) h2) l hsl (by omega) hb _ (fun F L s hs hF => ?_) l.length 0 (by omega)
        (repeat (first
      | refine Run.seq ?_
      | refine Run.skip ?_
      | refine Run.block ?_
      | refine Run.blk ?_
      | (refine Run.exit rfl ?_)
      | (refine Run.reg mixed ?_; simp -implicitDefEqProofs only [hF, go_sem, eq_self, Nat.reduceEqDiff, Nat.reduceBEq, Nat.reduceAdd, Nat.reduceLeDiff, reduceIte, reduceCtorEq, tysA, tyA, Ty.enc, Ty.encs])
      | (refine Run.condM ?_; simp -implicitDefEqProofs only [hF, go_sem, eq_self, Nat.reduceEqDiff, Nat.reduceBEq, Nat.reduceAdd, Nat.reduceLeDiff, reduceIte, reduceCtorEq, tysA, tyA, Ty.enc, Ty.encs])))
        refine Run.retP g_typing_substSize (Heap.le_refl _) ?_
        simp -implicitDefEqProofs only [rs_typing_substSize, hF, go_sem, eq_self, Nat.reduceEqDiff, Nat.reduceBEq, Nat.reduceAdd, Nat.reduceLeDiff, reduceIte, reduceCtorEq, tysA, tyA, Ty.enc, Ty.encs]
        exact ⟨s, rfl, hs⟩
end Go.Ab

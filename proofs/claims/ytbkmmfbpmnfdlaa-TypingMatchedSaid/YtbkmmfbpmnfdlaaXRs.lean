/- The reference's copied and Subst; substSize. Conditions: the types are small. -/
import Derived.Test.YtbkmmfbpmnfdlaaXSb
set_option linter.unusedSimpArgs false
set_option linter.unusedVariables false
namespace Go.Ab
open Go.Proofs

theorem r6_copied_loop (n : Nat) (ih : ∀ (t : Ty) (σ : Heap), t.size ≤ n → ACalls Try.prog 24 [tyA t] σ (fun v σ' => v = tyA t ∧ σ' = σ))
    (l : List Ty) (kd nm : Int) (hl : Ty.sizes l ≤ n) (hn : n ≤ 1000000) (σ : Heap) (K : AV → Heap → Prop) {k : List CI}
    (hk : ∀ F L v σ', OwnS σ 25 3 (Ty.encs l) v σ' → F 2 = .lp 2 0 → F 3 = .lp 3 0 → L 2 = some [.d (.int .i64 0), .d (.int .i64 0), .nils] → L 3 = some [.d (.int .i64 kd), .d (.int .i64 nm), v] → Run x_r6_copied K k F L σ') :
    ∀ (m i : Nat), m + i = l.length → ∀ v σ', OwnS σ 25 3 (Ty.encs (l.take i)) v σ' → Run x_r6_copied K (.again c_r6_copied_L0 :: .blk 0 :: k)
      (put 1 (.lp 1 0) (put 2 (.lp 2 0) (put 3 (.lp 3 0) (put 4 (.d (.int .i64 i)) U))))
      (putL 1 [.d (.int .i64 kd), .d (.int .i64 nm), tysA l] (putL 2 [.d (.int .i64 0), .d (.int .i64 0), .nils] (putL 3 [.d (.int .i64 kd), .d (.int .i64 nm), v] E))) σ' := by
  intro m
  have hll := len_sizes l
  induction m with
  | zero =>
    intro i hi v σ' ho
    refine Run.again ?_
    (repeat (first
      | refine Run.seq ?_
      | refine Run.skip ?_
      | refine Run.block ?_
      | refine Run.blk ?_
      | (refine Run.exit rfl ?_)
      | (refine Run.reg mixed ?_; simp -implicitDefEqProofs only [go_sem, eq_self, Nat.reduceEqDiff, Nat.reduceBEq, Nat.reduceAdd, Nat.reduceLeDiff, reduceIte, reduceCtorEq, tysA, tyA, Ty.enc, Ty.encs])
      | (refine Run.condM ?_; simp -implicitDefEqProofs only [go_sem, eq_self, Nat.reduceEqDiff, Nat.reduceBEq, Nat.reduceAdd, Nat.reduceLeDiff, reduceIte, reduceCtorEq, tysA, tyA, Ty.enc, Ty.encs])))
    refine ⟨fun h => ?_, fun h => ?_⟩
    · simp [encs_len] at h; omega
    · (repeat (first
      | refine Run.seq ?_
      | refine Run.skip ?_
      | refine Run.block ?_
      | refine Run.blk ?_
      | (refine Run.exit rfl ?_)
      | (refine Run.reg mixed ?_; simp -implicitDefEqProofs only [go_sem, eq_self, Nat.reduceEqDiff, Nat.reduceBEq, Nat.reduceAdd, Nat.reduceLeDiff, reduceIte, reduceCtorEq, tysA, tyA, Ty.enc, Ty.encs])
      | (refine Run.condM ?_; simp -implicitDefEqProofs only [go_sem, eq_self, Nat.reduceEqDiff, Nat.reduceBEq, Nat.reduceAdd, Nat.reduceLeDiff, reduceIte, reduceCtorEq, tysA, tyA, Ty.enc, Ty.encs])))
      have : l.take i = l := List.take_of_length_le (by omega)
      rw [this] at ho
      exact hk _ _ v σ' ho rfl rfl rfl rfl
  | succ m ihm =>
    intro i hi v σ' ho
    have hlt : i < l.length := by omega
    obtain ⟨t, ht⟩ : ∃ t, l[i]? = some t := ⟨l[i], by simp [hlt]⟩
    have hs1 : l.take (i + 1) = l.take i ++ [t] := take_snoc ht
    have hsz := sizes_get ht
    obtain ⟨kd', nm', al⟩ := t
    have he := encs_at ht
    refine Run.again ?_
    (repeat (first
      | refine Run.seq ?_
      | refine Run.skip ?_
      | refine Run.block ?_
      | refine Run.blk ?_
      | (refine Run.exit rfl ?_)
      | (refine Run.reg mixed ?_; simp -implicitDefEqProofs only [go_sem, eq_self, Nat.reduceEqDiff, Nat.reduceBEq, Nat.reduceAdd, Nat.reduceLeDiff, reduceIte, reduceCtorEq, tysA, tyA, Ty.enc, Ty.encs])
      | (refine Run.condM ?_; simp -implicitDefEqProofs only [go_sem, eq_self, Nat.reduceEqDiff, Nat.reduceBEq, Nat.reduceAdd, Nat.reduceLeDiff, reduceIte, reduceCtorEq, tysA, tyA, Ty.enc, Ty.encs])))
    refine ⟨fun h => ?_, fun h => ?_⟩
    · (repeat (first
      | refine Run.seq ?_
      | refine Run.skip ?_
      | refine Run.block ?_
      | refine Run.blk ?_
      | (refine Run.exit rfl ?_)
      | (refine Run.reg mixed ?_; simp -implicitDefEqProofs only [go_sem, eq_self, Nat.reduceEqDiff, Nat.reduceBEq, Nat.reduceAdd, Nat.reduceLeDiff, reduceIte, reduceCtorEq, tysA, tyA, Ty.enc, Ty.encs])
      | (refine Run.condM ?_; simp -implicitDefEqProofs only [go_sem, eq_self, Nat.reduceEqDiff, Nat.reduceBEq, Nat.reduceAdd, Nat.reduceLeDiff, reduceIte, reduceCtorEq, tysA, tyA, Ty.enc, Ty.encs])))
      simp -implicitDefEqProofs only [he, go_sem, eq_self, Nat.reduceEqDiff, Nat.reduceBEq, Nat.reduceAdd, Nat.reduceLeDiff, reduceIte, reduceCtorEq, tysA, tyA, Ty.enc, Ty.encs]
      refine XPCall.mk rfl (ih (.mk kd' nm' al) _ (by omega)) ?_
      simp -implicitDefEqProofs only [go_sem, eq_self, Nat.reduceEqDiff, Nat.reduceBEq, Nat.reduceAdd, Nat.reduceLeDiff, reduceIte, reduceCtorEq, tysA, tyA, Ty.enc, Ty.encs]
      refine XApp.own ho rfl (by simp) (by simp [encs_len]; omega) (by decide) (fun v2 σ2 ho2 hbk => ?_)
      simp -implicitDefEqProofs only [ho2.cells, ho2.cell, go_sem, eq_self, Nat.reduceEqDiff, Nat.reduceBEq, Nat.reduceAdd, Nat.reduceLeDiff, reduceIte, reduceCtorEq, tysA, tyA, Ty.enc, Ty.encs]
      (repeat (first
      | refine Run.seq ?_
      | refine Run.skip ?_
      | refine Run.block ?_
      | refine Run.blk ?_
      | (refine Run.exit rfl ?_)
      | (refine Run.reg mixed ?_; simp -implicitDefEqProofs only [go_sem, eq_self, Nat.reduceEqDiff, Nat.reduceBEq, Nat.reduceAdd, Nat.reduceLeDiff, reduceIte, reduceCtorEq, tysA, tyA, Ty.enc, Ty.encs])
      | (refine Run.condM ?_; simp -implicitDefEqProofs only [go_sem, eq_self, Nat.reduceEqDiff, Nat.reduceBEq, Nat.reduceAdd, Nat.reduceLeDiff, reduceIte, reduceCtorEq, tysA, tyA, Ty.enc, Ty.encs])))
      rw [wrap_succ (by omega)]
      refine ihm (i + 1) (by omega) v2 σ2 ?_
      rw [hs1, encs_append]
      exact ho2
    · simp [encs_len] at h; omega

theorem r6_copied_ok (n : Nat) : ∀ (t : Ty) (σ : Heap), t.size ≤ n → n ≤ 1000000 → ACalls Try.prog 24 [tyA t] σ (fun v σ' => v = tyA t ∧ σ' = σ) := by
  induction n with
  | zero => intro t σ h; have := size_pos t; omega
  | succ n ih =>
    intro t σ ht hn
    obtain ⟨kd, nm, l⟩ := t
    have hsl : Ty.sizes l ≤ n := by simp only [Ty.size] at ht; omega
    refine i_r6_copied (by simp) ?_
    rw [argF_1]
    (repeat (first
      | refine Run.seq ?_
      | refine Run.skip ?_
      | refine Run.block ?_
      | refine Run.blk ?_
      | (refine Run.exit rfl ?_)
      | (refine Run.reg mixed ?_; simp -implicitDefEqProofs only [go_sem, eq_self, Nat.reduceEqDiff, Nat.reduceBEq, Nat.reduceAdd, Nat.reduceLeDiff, reduceIte, reduceCtorEq, tysA, tyA, Ty.enc, Ty.encs])
      | (refine Run.condM ?_; simp -implicitDefEqProofs only [go_sem, eq_self, Nat.reduceEqDiff, Nat.reduceBEq, Nat.reduceAdd, Nat.reduceLeDiff, reduceIte, reduceCtorEq, tysA, tyA, Ty.enc, Ty.encs])))
    refine Run.loopA ?_
    refine r6_copied_loop n (fun t σ h => ih t σ h (by omega)) l kd nm hsl (by omega) σ _ (fun F L v σ' ho hF4 hF5 hL4 hL5 => ?_) l.length 0 (by omega) _ _ (by simpa [Ty.encs] using OwnS.nil σ 25 3)
    (repeat (first
      | refine Run.seq ?_
      | refine Run.skip ?_
      | refine Run.block ?_
      | refine Run.blk ?_
      | (refine Run.exit rfl ?_)
      | (refine Run.reg mixed ?_; simp -implicitDefEqProofs only [hF4, hF5, hL4, hL5, ho.cell, go_sem, eq_self, Nat.reduceEqDiff, Nat.reduceBEq, Nat.reduceAdd, Nat.reduceLeDiff, reduceIte, reduceCtorEq, tysA, tyA, Ty.enc, Ty.encs])
      | (refine Run.condM ?_; simp -implicitDefEqProofs only [hF4, hF5, hL4, hL5, ho.cell, go_sem, eq_self, Nat.reduceEqDiff, Nat.reduceBEq, Nat.reduceAdd, Nat.reduceLeDiff, reduceIte, reduceCtorEq, tysA, tyA, Ty.enc, Ty.encs])))
    refine Run.retP g_r6_copied ho.le ?_
    simp -implicitDefEqProofs only [rs_r6_copied, ho.plain, go_sem, eq_self, Nat.reduceEqDiff, Nat.reduceBEq, Nat.reduceAdd, Nat.reduceLeDiff, reduceIte, reduceCtorEq, tysA, tyA, Ty.enc, Ty.encs]

theorem r6_Subst_loop (n : Nat) (args : List Ty) (ih : ∀ (t : Ty) (σ : Heap), t.size ≤ n → ACalls Try.prog 20 [tyA t, tysA args] σ (fun v σ' => v = tyA (t.subst args) ∧ σ' = σ))
    (l : List Ty) (kd nm : Int) (hl : Ty.sizes l ≤ n) (hn : n ≤ 1000000) (σ : Heap) (K : AV → Heap → Prop) {k : List CI}
    (hk : ∀ F L v σ', OwnS σ 25 3 (Ty.encs (Ty.substs args l)) v σ' → F 4 = .lp 4 0 → F 5 = .lp 5 0 → L 4 = some [.d (.int .i64 0), .d (.int .i64 0), .nils] → L 5 = some [.d (.int .i64 kd), .d (.int .i64 nm), v] → Run x_r6_Subst K k F L σ') :
    ∀ (m i : Nat), m + i = l.length → ∀ v σ', OwnS σ 25 3 (Ty.encs (Ty.substs args (l.take i))) v σ' → Run x_r6_Subst K (.again c_r6_Subst_L0 :: .blk 0 :: k)
      (put 1 (tysA args) (put 2 (.lp 2 0) (put 4 (.lp 4 0) (put 5 (.lp 5 0) (put 6 (.d (.int .i64 i)) U)))))
      (putL 2 [.d (.int .i64 kd), .d (.int .i64 nm), tysA l] (putL 4 [.d (.int .i64 0), .d (.int .i64 0), .nils] (putL 5 [.d (.int .i64 kd), .d (.int .i64 nm), v] E))) σ' := by
  intro m
  have hll := len_sizes l
  induction m with
  | zero =>
    intro i hi v σ' ho
    refine Run.again ?_
    (repeat (first
      | refine Run.seq ?_
      | refine Run.skip ?_
      | refine Run.block ?_
      | refine Run.blk ?_
      | (refine Run.exit rfl ?_)
      | (refine Run.reg mixed ?_; simp -implicitDefEqProofs only [go_sem, eq_self, Nat.reduceEqDiff, Nat.reduceBEq, Nat.reduceAdd, Nat.reduceLeDiff, reduceIte, reduceCtorEq, tysA, tyA, Ty.enc, Ty.encs])
      | (refine Run.condM ?_; simp -implicitDefEqProofs only [go_sem, eq_self, Nat.reduceEqDiff, Nat.reduceBEq, Nat.reduceAdd, Nat.reduceLeDiff, reduceIte, reduceCtorEq, tysA, tyA, Ty.enc, Ty.encs])))
    refine ⟨fun h => ?_, fun h => ?_⟩
    · simp [encs_len] at h; omega
    · (repeat (first
      | refine Run.seq ?_
      | refine Run.skip ?_
      | refine Run.block ?_
      | refine Run.blk ?_
      | (refine Run.exit rfl ?_)
      | (refine Run.reg mixed ?_; simp -implicitDefEqProofs only [go_sem, eq_self, Nat.reduceEqDiff, Nat.reduceBEq, Nat.reduceAdd, Nat.reduceLeDiff, reduceIte, reduceCtorEq, tysA, tyA, Ty.enc, Ty.encs])
      | (refine Run.condM ?_; simp -implicitDefEqProofs only [go_sem, eq_self, Nat.reduceEqDiff, Nat.reduceBEq, Nat.reduceAdd, Nat.reduceLeDiff, reduceIte, reduceCtorEq, tysA, tyA, Ty.enc, Ty.encs])))
      have : l.take i = l := List.take_of_length_le (by omega)
      rw [this] at ho
      exact hk _ _ v σ' ho rfl rfl rfl rfl
  | succ m ihm =>
    intro i hi v σ' ho
    have hlt : i < l.length := by omega
    obtain ⟨t, ht⟩ : ∃ t, l[i]? = some t := ⟨l[i], by simp [hlt]⟩
    have hs1 : l.take (i + 1) = l.take i ++ [t] := take_snoc ht
    have hsz := sizes_get ht
    obtain ⟨kd', nm', al⟩ := t
    have he := encs_at ht
    refine Run.again ?_
    (repeat (first
      | refine Run.seq ?_
      | refine Run.skip ?_
      | refine Run.block ?_
      | refine Run.blk ?_
      | (refine Run.exit rfl ?_)
      | (refine Run.reg mixed ?_; simp -implicitDefEqProofs only [go_sem, eq_self, Nat.reduceEqDiff, Nat.reduceBEq, Nat.reduceAdd, Nat.reduceLeDiff, reduceIte, reduceCtorEq, tysA, tyA, Ty.enc, Ty.encs])
      | (refine Run.condM ?_; simp -implicitDefEqProofs only [go_sem, eq_self, Nat.reduceEqDiff, Nat.reduceBEq, Nat.reduceAdd, Nat.reduceLeDiff, reduceIte, reduceCtorEq, tysA, tyA, Ty.enc, Ty.encs])))
    refine ⟨fun h => ?_, fun h => ?_⟩
    · (repeat (first
      | refine Run.seq ?_
      | refine Run.skip ?_
      | refine Run.block ?_
      | refine Run.blk ?_
      | (refine Run.exit rfl ?_)
      | (refine Run.reg mixed ?_; simp -implicitDefEqProofs only [go_sem, eq_self, Nat.reduceEqDiff, Nat.reduceBEq, Nat.reduceAdd, Nat.reduceLeDiff, reduceIte, reduceCtorEq, tysA, tyA, Ty.enc, Ty.encs])
      | (refine Run.condM ?_; simp -implicitDefEqProofs only [go_sem, eq_self, Nat.reduceEqDiff, Nat.reduceBEq, Nat.reduceAdd, Nat.reduceLeDiff, reduceIte, reduceCtorEq, tysA, tyA, Ty.enc, Ty.encs])))
      simp -implicitDefEqProofs only [he, go_sem, eq_self, Nat.reduceEqDiff, Nat.reduceBEq, Nat.reduceAdd, Nat.reduceLeDiff, reduceIte, reduceCtorEq, tysA, tyA, Ty.enc, Ty.encs]
      refine XPCall.mk rfl (ih (.mk kd' nm' al) _ (by omega)) ?_
      generalize hu : (Ty.mk kd' nm' al).subst args = u at *
      obtain ⟨k2, n2, a2⟩ := u
      simp -implicitDefEqProofs only [go_sem, eq_self, Nat.reduceEqDiff, Nat.reduceBEq, Nat.reduceAdd, Nat.reduceLeDiff, reduceIte, reduceCtorEq, tysA, tyA, Ty.enc, Ty.encs]
      refine XApp.own ho rfl (by simp) (by simp [encs_len, substs_length]; omega) (by decide) (fun v2 σ2 ho2 hbk => ?_)
      simp -implicitDefEqProofs only [ho2.cells, ho2.cell, go_sem, eq_self, Nat.reduceEqDiff, Nat.reduceBEq, Nat.reduceAdd, Nat.reduceLeDiff, reduceIte, reduceCtorEq, tysA, tyA, Ty.enc, Ty.encs]
      (repeat (first
      | refine Run.seq ?_
      | refine Run.skip ?_
      | refine Run.block ?_
      | refine Run.blk ?_
      | (refine Run.exit rfl ?_)
      | (refine Run.reg mixed ?_; simp -implicitDefEqProofs only [go_sem, eq_self, Nat.reduceEqDiff, Nat.reduceBEq, Nat.reduceAdd, Nat.reduceLeDiff, reduceIte, reduceCtorEq, tysA, tyA, Ty.enc, Ty.encs])
      | (refine Run.condM ?_; simp -implicitDefEqProofs only [go_sem, eq_self, Nat.reduceEqDiff, Nat.reduceBEq, Nat.reduceAdd, Nat.reduceLeDiff, reduceIte, reduceCtorEq, tysA, tyA, Ty.enc, Ty.encs])))
      rw [wrap_succ (by omega)]
      refine ihm (i + 1) (by omega) v2 σ2 ?_
      rw [hs1, substs_snoc, encs_append, hu]
      exact ho2
    · simp [encs_len] at h; omega

theorem r6_Subst_ok (args : List Ty) (ha : ∀ t ∈ args, t.size ≤ 1000000) (n : Nat) : ∀ (t : Ty) (σ : Heap), t.size ≤ n → n ≤ 1000000 → ACalls Try.prog 20 [tyA t, tysA args] σ (fun v σ' => v = tyA (t.subst args) ∧ σ' = σ) := by
  induction n with
  | zero => intro t σ h; have := size_pos t; omega
  | succ n ih =>
    intro t σ ht hn
    obtain ⟨kd, nm, l⟩ := t
    have hsl : Ty.sizes l ≤ n := by simp only [Ty.size] at ht; omega
    refine i_r6_Subst (by simp) ?_
    rw [argF_2]
    (repeat (first
      | refine Run.seq ?_
      | refine Run.skip ?_
      | refine Run.block ?_
      | refine Run.blk ?_
      | (refine Run.exit rfl ?_)))
    (refine Run.reg mixed ?_; simp -implicitDefEqProofs only [go_sem, eq_self, Nat.reduceEqDiff, Nat.reduceBEq, Nat.reduceAdd, Nat.reduceLeDiff, reduceIte, reduceCtorEq, tysA, tyA, Ty.enc, Ty.encs])
    (repeat (first
      | refine Run.seq ?_
      | refine Run.skip ?_
      | refine Run.block ?_
      | refine Run.blk ?_
      | (refine Run.exit rfl ?_)))
    refine Run.regCut mixed (put 1 (tysA args) (put 2 (.lp 2 0) (put 4 (.lp 4 0) (put 21 (.d (.bool ((kd == 4) && decide (0 ≤ nm) && decide (nm < args.length)))) U))))
      (putL 2 [.d (.int .i64 kd), .d (.int .i64 nm), tysA l] (putL 4 [.d (.int .i64 0), .d (.int .i64 0), .nils] E)) σ ?_ ?_
    · cases h1 : (kd == 4)
      · simp -implicitDefEqProofs only [h1, go_sem, eq_self, Nat.reduceEqDiff, Nat.reduceBEq, Nat.reduceAdd, Nat.reduceLeDiff, reduceIte, reduceCtorEq, tysA, tyA, Ty.enc, Ty.encs]
      · cases h2 : decide (0 ≤ nm)
        · simp -implicitDefEqProofs only [h1, h2, go_sem, eq_self, Nat.reduceEqDiff, Nat.reduceBEq, Nat.reduceAdd, Nat.reduceLeDiff, reduceIte, reduceCtorEq, tysA, tyA, Ty.enc, Ty.encs]
        · simp -implicitDefEqProofs only [h1, h2, encs_len, go_sem, eq_self, Nat.reduceEqDiff, Nat.reduceBEq, Nat.reduceAdd, Nat.reduceLeDiff, reduceIte, reduceCtorEq, tysA, tyA, Ty.enc, Ty.encs]
    · (repeat (first
      | refine Run.seq ?_
      | refine Run.skip ?_
      | refine Run.block ?_
      | refine Run.blk ?_
      | (refine Run.exit rfl ?_)
      | (refine Run.reg mixed ?_; simp -implicitDefEqProofs only [go_sem, eq_self, Nat.reduceEqDiff, Nat.reduceBEq, Nat.reduceAdd, Nat.reduceLeDiff, reduceIte, reduceCtorEq, tysA, tyA, Ty.enc, Ty.encs])
      | (refine Run.condM ?_; simp -implicitDefEqProofs only [go_sem, eq_self, Nat.reduceEqDiff, Nat.reduceBEq, Nat.reduceAdd, Nat.reduceLeDiff, reduceIte, reduceCtorEq, tysA, tyA, Ty.enc, Ty.encs])))
      refine ⟨fun h => ?_, fun h => ?_⟩
      · simp only [Bool.and_eq_true, beq_iff_eq, decide_eq_true_eq] at h
        obtain ⟨⟨h1, h2⟩, h3⟩ := h
        obtain ⟨i, rfl⟩ := Int.eq_ofNat_of_zero_le h2
        have hlt : i < args.length := by omega
        obtain ⟨t, ht⟩ : ∃ t, args[i]? = some t := ⟨args[i], by simp [hlt]⟩
        have hmem := List.mem_of_getElem? ht
        have hsub : (Ty.mk kd i l).subst args = t := by
          simp only [Ty.subst]; rw [if_pos ⟨h1, h2, h3⟩]; simp [ht]
        rw [hsub]
        have hsz := ha t hmem
        obtain ⟨k2, n2, a2⟩ := t
        have he := encs_at ht
        (repeat (first
      | refine Run.seq ?_
      | refine Run.skip ?_
      | refine Run.block ?_
      | refine Run.blk ?_
      | (refine Run.exit rfl ?_)
      | (refine Run.reg mixed ?_; simp -implicitDefEqProofs only [go_sem, eq_self, Nat.reduceEqDiff, Nat.reduceBEq, Nat.reduceAdd, Nat.reduceLeDiff, reduceIte, reduceCtorEq, tysA, tyA, Ty.enc, Ty.encs])
      | (refine Run.condM ?_; simp -implicitDefEqProofs only [go_sem, eq_self, Nat.reduceEqDiff, Nat.reduceBEq, Nat.reduceAdd, Nat.reduceLeDiff, reduceIte, reduceCtorEq, tysA, tyA, Ty.enc, Ty.encs])))
        simp -implicitDefEqProofs only [he, go_sem, eq_self, Nat.reduceEqDiff, Nat.reduceBEq, Nat.reduceAdd, Nat.reduceLeDiff, reduceIte, reduceCtorEq, tysA, tyA, Ty.enc, Ty.encs]
        refine XCall.mk rfl (r6_copied_ok 1000000 (.mk k2 n2 a2) _ hsz (Nat.le_refl _)) ?_
        rintro v σ' ⟨rfl, rfl⟩
        simp -implicitDefEqProofs only [go_sem, eq_self, Nat.reduceEqDiff, Nat.reduceBEq, Nat.reduceAdd, Nat.reduceLeDiff, reduceIte, reduceCtorEq, tysA, tyA, Ty.enc, Ty.encs]
        (repeat (first
      | refine Run.seq ?_
      | refine Run.skip ?_
      | refine Run.block ?_
      | refine Run.blk ?_
      | (refine Run.exit rfl ?_)
      | (refine Run.reg mixed ?_; simp -implicitDefEqProofs only [go_sem, eq_self, Nat.reduceEqDiff, Nat.reduceBEq, Nat.reduceAdd, Nat.reduceLeDiff, reduceIte, reduceCtorEq, tysA, tyA, Ty.enc, Ty.encs])
      | (refine Run.condM ?_; simp -implicitDefEqProofs only [go_sem, eq_self, Nat.reduceEqDiff, Nat.reduceBEq, Nat.reduceAdd, Nat.reduceLeDiff, reduceIte, reduceCtorEq, tysA, tyA, Ty.enc, Ty.encs])))
        refine Run.retP g_r6_Subst (Heap.le_refl _) ?_
        simp -implicitDefEqProofs only [rs_r6_Subst, go_sem, eq_self, Nat.reduceEqDiff, Nat.reduceBEq, Nat.reduceAdd, Nat.reduceLeDiff, reduceIte, reduceCtorEq, tysA, tyA, Ty.enc, Ty.encs]
      · have hno : ¬ (kd = 4 ∧ 0 ≤ nm ∧ nm < args.length) := by
          simp only [Bool.and_eq_false_iff, beq_eq_false_iff_ne, decide_eq_false_iff_not] at h
          omega
        have hsub : (Ty.mk kd nm l).subst args = .mk kd nm (Ty.substs args l) := by simp only [Ty.subst]; rw [if_neg hno]
        rw [hsub]
        (repeat (first
      | refine Run.seq ?_
      | refine Run.skip ?_
      | refine Run.block ?_
      | refine Run.blk ?_
      | (refine Run.exit rfl ?_)
      | (refine Run.reg mixed ?_; simp -implicitDefEqProofs only [go_sem, eq_self, Nat.reduceEqDiff, Nat.reduceBEq, Nat.reduceAdd, Nat.reduceLeDiff, reduceIte, reduceCtorEq, tysA, tyA, Ty.enc, Ty.encs])
      | (refine Run.condM ?_; simp -implicitDefEqProofs only [go_sem, eq_self, Nat.reduceEqDiff, Nat.reduceBEq, Nat.reduceAdd, Nat.reduceLeDiff, reduceIte, reduceCtorEq, tysA, tyA, Ty.enc, Ty.encs])))
        refine Run.loopA ?_
        refine r6_Subst_loop n args (fun t σ h => ih t σ h (by omega)) l kd nm hsl (by omega) σ _ (fun F L v σ' ho hF4 hF5 hL4 hL5 => ?_) l.length 0 (by omega) _ _ (by simpa [Ty.substs, Ty.encs] using OwnS.nil σ 25 3)
        (repeat (first
      | refine Run.seq ?_
      | refine Run.skip ?_
      | refine Run.block ?_
      | refine Run.blk ?_
      | (refine Run.exit rfl ?_)
      | (refine Run.reg mixed ?_; simp -implicitDefEqProofs only [hF4, hF5, hL4, hL5, ho.cell, go_sem, eq_self, Nat.reduceEqDiff, Nat.reduceBEq, Nat.reduceAdd, Nat.reduceLeDiff, reduceIte, reduceCtorEq, tysA, tyA, Ty.enc, Ty.encs])
      | (refine Run.condM ?_; simp -implicitDefEqProofs only [hF4, hF5, hL4, hL5, ho.cell, go_sem, eq_self, Nat.reduceEqDiff, Nat.reduceBEq, Nat.reduceAdd, Nat.reduceLeDiff, reduceIte, reduceCtorEq, tysA, tyA, Ty.enc, Ty.encs])))
        refine Run.retP g_r6_Subst ho.le ?_
        simp -implicitDefEqProofs only [rs_r6_Subst, ho.plain, go_sem, eq_self, Nat.reduceEqDiff, Nat.reduceBEq, Nat.reduceAdd, Nat.reduceLeDiff, reduceIte, reduceCtorEq, tysA, tyA, Ty.enc, Ty.encs]
end Go.Ab

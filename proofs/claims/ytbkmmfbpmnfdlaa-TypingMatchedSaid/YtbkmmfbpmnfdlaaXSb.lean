/- The reference's Size; Type; Subst and the reference's Subst and copied. Conditions: the types are small. -/
import Derived.Test.YtbkmmfbpmnfdlaaXSm
set_option linter.unusedSimpArgs false
set_option linter.unusedVariables false
namespace Go.Ab
open Go.Proofs

theorem r6_Size_loop (n : Nat) (ih : ∀ (t : Ty) (σ : Heap), t.size ≤ n → ACalls Try.prog 11 [tyA t] σ (fun v σ' => v = .d (.int .i64 t.size) ∧ σ' = σ)) (l : List Ty) (kd nm : Int) (hl : Ty.sizes l ≤ n) (hn : n ≤ 1000000) (σ : Heap)
    (K : AV → Heap → Prop) {k : List CI}
    (hk : ∀ F L, F 3 = .d (.int .i64 ((1 + Ty.sizes l : Nat) : Int)) → Run x_r6_Size K k F L σ) :
    ∀ (m i : Nat), m + i = l.length → Run x_r6_Size K (.again c_r6_Size_L0 :: .blk 0 :: k)
      (put 1 (.lp 1 0) (put 3 (.d (.int .i64 ((1 + Ty.sizes (l.take i) : Nat) : Int))) (put 4 (.d (.int .i64 i)) U))) (putL 1 [.d (.int .i64 kd), .d (.int .i64 nm), tysA l] E) σ := by
  intro m
  have hll := len_sizes l
  induction m with
  | zero =>
    intro i hi
    refine Run.again ?_
    (repeat (first
      | refine Run.seq ?_
      | refine Run.skip ?_
      | refine Run.block ?_
      | refine Run.blk ?_
      | (refine Run.exit rfl ?_)
      | (refine Run.reg mixed ?_; simp -implicitDefEqProofs only [go_sem, eq_self, Nat.reduceEqDiff, Nat.reduceBEq, Nat.reduceAdd, Nat.reduceLeDiff, reduceIte, reduceCtorEq, tysA, tyA, Ty.enc, Ty.encs])
      | (refine Run.condM ?_; simp -implicitDefEqProofs only [go_sem, eq_self, Nat.reduceEqDiff, Nat.reduceBEq, Nat.reduceAdd, Nat.reduceLeDiff, reduceIte, reduceCtorEq, tysA, tyA, Ty.enc, Ty.encs])))
    refine ⟨fun h => ?_, fun h => ?_⟩
    · simp [encs_len] at h; omega
    · (repeat (first
      | refine Run.seq ?_
      | refine Run.skip ?_
      | refine Run.block ?_
      | refine Run.blk ?_
      | (refine Run.exit rfl ?_)
      | (refine Run.reg mixed ?_; simp -implicitDefEqProofs only [go_sem, eq_self, Nat.reduceEqDiff, Nat.reduceBEq, Nat.reduceAdd, Nat.reduceLeDiff, reduceIte, reduceCtorEq, tysA, tyA, Ty.enc, Ty.encs])
      | (refine Run.condM ?_; simp -implicitDefEqProofs only [go_sem, eq_self, Nat.reduceEqDiff, Nat.reduceBEq, Nat.reduceAdd, Nat.reduceLeDiff, reduceIte, reduceCtorEq, tysA, tyA, Ty.enc, Ty.encs])))
      have : l.take i = l := List.take_of_length_le (by omega)
      rw [this]
      exact hk _ _ rfl
  | succ m ihm =>
    intro i hi
    have hlt : i < l.length := by omega
    obtain ⟨t, ht⟩ : ∃ t, l[i]? = some t := ⟨l[i], by simp [hlt]⟩
    have hs1 : Ty.sizes (l.take (i + 1)) = Ty.sizes (l.take i) + t.size := by rw [take_snoc ht, sizes_snoc]
    have hsz := sizes_get ht
    obtain ⟨kd', nm', al⟩ := t
    have he := encs_at ht
    refine Run.again ?_
    (repeat (first
      | refine Run.seq ?_
      | refine Run.skip ?_
      | refine Run.block ?_
      | refine Run.blk ?_
      | (refine Run.exit rfl ?_)
      | (refine Run.reg mixed ?_; simp -implicitDefEqProofs only [go_sem, eq_self, Nat.reduceEqDiff, Nat.reduceBEq, Nat.reduceAdd, Nat.reduceLeDiff, reduceIte, reduceCtorEq, tysA, tyA, Ty.enc, Ty.encs])
      | (refine Run.condM ?_; simp -implicitDefEqProofs only [go_sem, eq_self, Nat.reduceEqDiff, Nat.reduceBEq, Nat.reduceAdd, Nat.reduceLeDiff, reduceIte, reduceCtorEq, tysA, tyA, Ty.enc, Ty.encs])))
    refine ⟨fun h => ?_, fun h => ?_⟩
    · (repeat (first
      | refine Run.seq ?_
      | refine Run.skip ?_
      | refine Run.block ?_
      | refine Run.blk ?_
      | (refine Run.exit rfl ?_)
      | (refine Run.reg mixed ?_; simp -implicitDefEqProofs only [go_sem, eq_self, Nat.reduceEqDiff, Nat.reduceBEq, Nat.reduceAdd, Nat.reduceLeDiff, reduceIte, reduceCtorEq, tysA, tyA, Ty.enc, Ty.encs])
      | (refine Run.condM ?_; simp -implicitDefEqProofs only [go_sem, eq_self, Nat.reduceEqDiff, Nat.reduceBEq, Nat.reduceAdd, Nat.reduceLeDiff, reduceIte, reduceCtorEq, tysA, tyA, Ty.enc, Ty.encs])))
      simp -implicitDefEqProofs only [he, go_sem, eq_self, Nat.reduceEqDiff, Nat.reduceBEq, Nat.reduceAdd, Nat.reduceLeDiff, reduceIte, reduceCtorEq, tysA, tyA, Ty.enc, Ty.encs]
      refine XCall.mk rfl (ih (.mk kd' nm' al) _ (by omega)) ?_
      rintro v σ' ⟨rfl, rfl⟩
      simp -implicitDefEqProofs only [go_sem, eq_self, Nat.reduceEqDiff, Nat.reduceBEq, Nat.reduceAdd, Nat.reduceLeDiff, reduceIte, reduceCtorEq, tysA, tyA, Ty.enc, Ty.encs]
      (repeat (first
      | refine Run.seq ?_
      | refine Run.skip ?_
      | refine Run.block ?_
      | refine Run.blk ?_
      | (refine Run.exit rfl ?_)
      | (refine Run.reg mixed ?_; simp -implicitDefEqProofs only [go_sem, eq_self, Nat.reduceEqDiff, Nat.reduceBEq, Nat.reduceAdd, Nat.reduceLeDiff, reduceIte, reduceCtorEq, tysA, tyA, Ty.enc, Ty.encs])
      | (refine Run.condM ?_; simp -implicitDefEqProofs only [go_sem, eq_self, Nat.reduceEqDiff, Nat.reduceBEq, Nat.reduceAdd, Nat.reduceLeDiff, reduceIte, reduceCtorEq, tysA, tyA, Ty.enc, Ty.encs])))
      have := ihm (i + 1) (by omega)
      rw [hs1] at this
      rw [wrap_add (by omega), wrap_succ (by omega), Nat.add_assoc]
      exact this
    · simp [encs_len] at h; omega

theorem r6_Size_ok (n : Nat) : ∀ (t : Ty) (σ : Heap), t.size ≤ n → n ≤ 1000000 → ACalls Try.prog 11 [tyA t] σ (fun v σ' => v = .d (.int .i64 t.size) ∧ σ' = σ) := by
  induction n with
  | zero => intro t σ h; have := size_pos t; omega
  | succ n ih =>
    intro t σ ht hn
    obtain ⟨kd, nm, l⟩ := t
    have hsl : Ty.sizes l ≤ n := by simp only [Ty.size] at ht; omega
    refine i_r6_Size (by simp) ?_
    rw [argF_1]
    (repeat (first
      | refine Run.seq ?_
      | refine Run.skip ?_
      | refine Run.block ?_
      | refine Run.blk ?_
      | (refine Run.exit rfl ?_)
      | (refine Run.reg mixed ?_; simp -implicitDefEqProofs only [go_sem, eq_self, Nat.reduceEqDiff, Nat.reduceBEq, Nat.reduceAdd, Nat.reduceLeDiff, reduceIte, reduceCtorEq, tysA, tyA, Ty.enc, Ty.encs])
      | (refine Run.condM ?_; simp -implicitDefEqProofs only [go_sem, eq_self, Nat.reduceEqDiff, Nat.reduceBEq, Nat.reduceAdd, Nat.reduceLeDiff, reduceIte, reduceCtorEq, tysA, tyA, Ty.enc, Ty.encs])))
    refine Run.loopA ?_
    refine r6_Size_loop n (fun t σ h => ih t σ h (by omega)) l kd nm hsl (by omega) σ _ (fun F L hF => ?_) l.length 0 (by omega)
    (repeat (first
      | refine Run.seq ?_
      | refine Run.skip ?_
      | refine Run.block ?_
      | refine Run.blk ?_
      | (refine Run.exit rfl ?_)
      | (refine Run.reg mixed ?_; simp -implicitDefEqProofs only [go_sem, eq_self, Nat.reduceEqDiff, Nat.reduceBEq, Nat.reduceAdd, Nat.reduceLeDiff, reduceIte, reduceCtorEq, tysA, tyA, Ty.enc, Ty.encs])
      | (refine Run.condM ?_; simp -implicitDefEqProofs only [go_sem, eq_self, Nat.reduceEqDiff, Nat.reduceBEq, Nat.reduceAdd, Nat.reduceLeDiff, reduceIte, reduceCtorEq, tysA, tyA, Ty.enc, Ty.encs])))
    refine Run.retP g_r6_Size (Heap.le_refl _) ?_
    simp -implicitDefEqProofs only [rs_r6_Size, hF, Ty.size, go_sem, eq_self, Nat.reduceEqDiff, Nat.reduceBEq, Nat.reduceAdd, Nat.reduceLeDiff, reduceIte, reduceCtorEq, tysA, tyA, Ty.enc, Ty.encs]

theorem keep_Type_ok (t : Ty) (σ : Heap) : ACalls Try.prog 6 [tyA t] σ (fun v σ' => v = .d (.bool (decide (t.size ≤ 250))) ∧ σ' = σ) := by
  obtain ⟨kd, nm, l⟩ := t
  refine i_keep_Type (by simp) ?_
  rw [argF_1]
  (repeat (first
      | refine Run.seq ?_
      | refine Run.skip ?_
      | refine Run.block ?_
      | refine Run.blk ?_
      | (refine Run.exit rfl ?_)
      | (refine Run.reg mixed ?_; simp -implicitDefEqProofs only [go_sem, eq_self, Nat.reduceEqDiff, Nat.reduceBEq, Nat.reduceAdd, Nat.reduceLeDiff, reduceIte, reduceCtorEq, tysA, tyA, Ty.enc, Ty.encs])
      | (refine Run.condM ?_; simp -implicitDefEqProofs only [go_sem, eq_self, Nat.reduceEqDiff, Nat.reduceBEq, Nat.reduceAdd, Nat.reduceLeDiff, reduceIte, reduceCtorEq, tysA, tyA, Ty.enc, Ty.encs])))
  intro j hj
  (repeat (first
      | refine Run.seq ?_
      | refine Run.skip ?_
      | refine Run.block ?_
      | refine Run.blk ?_
      | (refine Run.exit rfl ?_)
      | (refine Run.reg mixed ?_; simp -implicitDefEqProofs only [go_sem, eq_self, Nat.reduceEqDiff, Nat.reduceBEq, Nat.reduceAdd, Nat.reduceLeDiff, reduceIte, reduceCtorEq, tysA, tyA, Ty.enc, Ty.encs])
      | (refine Run.condM ?_; simp -implicitDefEqProofs only [go_sem, eq_self, Nat.reduceEqDiff, Nat.reduceBEq, Nat.reduceAdd, Nat.reduceLeDiff, reduceIte, reduceCtorEq, tysA, tyA, Ty.enc, Ty.encs])))
  refine XCall.mk rfl (keep_typ_ok j 250 (by omega) (.mk kd nm l) _ (by simp -implicitDefEqProofs only [go_sem, eq_self, Nat.reduceEqDiff, Nat.reduceBEq, Nat.reduceAdd, Nat.reduceLeDiff, reduceIte, reduceCtorEq, tysA, tyA, Ty.enc, Ty.encs]; rfl)) ?_
  rintro v σ' ⟨rfl, rfl⟩
  simp -implicitDefEqProofs only [go_sem, eq_self, Nat.reduceEqDiff, Nat.reduceBEq, Nat.reduceAdd, Nat.reduceLeDiff, reduceIte, reduceCtorEq, tysA, tyA, Ty.enc, Ty.encs]
  (repeat (first
      | refine Run.seq ?_
      | refine Run.skip ?_
      | refine Run.block ?_
      | refine Run.blk ?_
      | (refine Run.exit rfl ?_)
      | (refine Run.reg mixed ?_; simp -implicitDefEqProofs only [go_sem, eq_self, Nat.reduceEqDiff, Nat.reduceBEq, Nat.reduceAdd, Nat.reduceLeDiff, reduceIte, reduceCtorEq, tysA, tyA, Ty.enc, Ty.encs])
      | (refine Run.condM ?_; simp -implicitDefEqProofs only [go_sem, eq_self, Nat.reduceEqDiff, Nat.reduceBEq, Nat.reduceAdd, Nat.reduceLeDiff, reduceIte, reduceCtorEq, tysA, tyA, Ty.enc, Ty.encs])))
  refine Run.retP (σ2 := σ) g_keep_Type (le_setBlk hj) ?_
  simp -implicitDefEqProofs only [rs_keep_Type, go_sem, eq_self, Nat.reduceEqDiff, Nat.reduceBEq, Nat.reduceAdd, Nat.reduceLeDiff, reduceIte, reduceCtorEq, tysA, tyA, Ty.enc, Ty.encs]

mutual
def Ty.subst (args : List Ty) : Ty → Ty
  | .mk k n l => if k = 4 ∧ 0 ≤ n ∧ n < args.length then args.getD n.toNat (.mk 0 0 []) else .mk k n (Ty.substs args l)
def Ty.substs (args : List Ty) : List Ty → List Ty
  | [] => []
  | t :: l => Ty.subst args t :: Ty.substs args l
end

mutual
theorem subst_nil : ∀ t : Ty, t.subst [] = t
  | .mk k n l => by
    simp only [Ty.subst]
    rw [if_neg (by intro h; have := h.2.2; simp at this; omega), substs_nil l]
theorem substs_nil : ∀ l : List Ty, Ty.substs [] l = l
  | [] => rfl
  | t :: l => by simp [Ty.substs, subst_nil t, substs_nil l]
end

theorem substs_snoc (args : List Ty) : ∀ (l : List Ty) (t : Ty), Ty.substs args (l ++ [t]) = Ty.substs args l ++ [t.subst args]
  | [], t => rfl
  | u :: l, t => by simp [Ty.substs, substs_snoc args l t]

theorem substs_length (args : List Ty) : ∀ (l : List Ty), (Ty.substs args l).length = l.length
  | [] => rfl
  | u :: l => by simp [Ty.substs, substs_length args l]

/-- What a copy of a type in progress looks like. -/
theorem typing_Subst_loop (n : Nat) (args : List Ty) (ih : ∀ (t : Ty) (σ : Heap), t.size ≤ n → ACalls Try.prog 14 [tyA t, tysA args] σ (fun v σ' => v = tyA (t.subst args) ∧ σ' = σ))
    (l : List Ty) (kd nm : Int) (hl : Ty.sizes l ≤ n) (hn : n ≤ 1000000) (σ : Heap) (K : AV → Heap → Prop) {k : List CI}
    (hk : ∀ F L v σ', OwnS σ 25 3 (Ty.encs (Ty.substs args l)) v σ' → F 4 = .lp 4 0 → F 5 = .lp 5 0 → L 4 = some [.d (.int .i64 0), .d (.int .i64 0), .nils] → L 5 = some [.d (.int .i64 kd), .d (.int .i64 nm), v] → Run x_typing_Subst K k F L σ') :
    ∀ (m i : Nat), m + i = l.length → ∀ v σ', OwnS σ 25 3 (Ty.encs (Ty.substs args (l.take i))) v σ' → Run x_typing_Subst K (.again c_typing_Subst_L0 :: .blk 0 :: k)
      (put 1 (tysA args) (put 4 (.lp 4 0) (put 5 (.lp 5 0) (put 35 (tysA l) (put 36 (.d (.int .i64 l.length)) (put 37 (.d (.int .i64 i)) U))))))
      (putL 4 [.d (.int .i64 0), .d (.int .i64 0), .nils] (putL 5 [.d (.int .i64 kd), .d (.int .i64 nm), v] E)) σ' := by
  intro m
  have hll := len_sizes l
  induction m with
  | zero =>
    intro i hi v σ' ho
    refine Run.again ?_
    (repeat (first
      | refine Run.seq ?_
      | refine Run.skip ?_
      | refine Run.block ?_
      | refine Run.blk ?_
      | (refine Run.exit rfl ?_)
      | (refine Run.reg mixed ?_; simp -implicitDefEqProofs only [go_sem, eq_self, Nat.reduceEqDiff, Nat.reduceBEq, Nat.reduceAdd, Nat.reduceLeDiff, reduceIte, reduceCtorEq, tysA, tyA, Ty.enc, Ty.encs])
      | (refine Run.condM ?_; simp -implicitDefEqProofs only [go_sem, eq_self, Nat.reduceEqDiff, Nat.reduceBEq, Nat.reduceAdd, Nat.reduceLeDiff, reduceIte, reduceCtorEq, tysA, tyA, Ty.enc, Ty.encs])))
    refine ⟨fun h => ?_, fun h => ?_⟩
    · simp at h; omega
    · (repeat (first
      | refine Run.seq ?_
      | refine Run.skip ?_
      | refine Run.block ?_
      | refine Run.blk ?_
      | (refine Run.exit rfl ?_)
      | (refine Run.reg mixed ?_; simp -implicitDefEqProofs only [go_sem, eq_self, Nat.reduceEqDiff, Nat.reduceBEq, Nat.reduceAdd, Nat.reduceLeDiff, reduceIte, reduceCtorEq, tysA, tyA, Ty.enc, Ty.encs])
      | (refine Run.condM ?_; simp -implicitDefEqProofs only [go_sem, eq_self, Nat.reduceEqDiff, Nat.reduceBEq, Nat.reduceAdd, Nat.reduceLeDiff, reduceIte, reduceCtorEq, tysA, tyA, Ty.enc, Ty.encs])))
      have : l.take i = l := List.take_of_length_le (by omega)
      rw [this] at ho
      exact hk _ _ v σ' ho rfl rfl rfl rfl
  | succ m ihm =>
    intro i hi v σ' ho
    have hlt : i < l.length := by omega
    obtain ⟨t, ht⟩ : ∃ t, l[i]? = some t := ⟨l[i], by simp [hlt]⟩
    have hs1 : l.take (i + 1) = l.take i ++ [t] := take_snoc ht
    have hsz := sizes_get ht
    have hsub : (t.subst args).enc.length = 3 := enc_len _
    obtain ⟨kd', nm', al⟩ := t
    have he := encs_at ht
    refine Run.again ?_
    (repeat (first
      | refine Run.seq ?_
      | refine Run.skip ?_
      | refine Run.block ?_
      | refine Run.blk ?_
      | (refine Run.exit rfl ?_)
      | (refine Run.reg mixed ?_; simp -implicitDefEqProofs only [go_sem, eq_self, Nat.reduceEqDiff, Nat.reduceBEq, Nat.reduceAdd, Nat.reduceLeDiff, reduceIte, reduceCtorEq, tysA, tyA, Ty.enc, Ty.encs])
      | (refine Run.condM ?_; simp -implicitDefEqProofs only [go_sem, eq_self, Nat.reduceEqDiff, Nat.reduceBEq, Nat.reduceAdd, Nat.reduceLeDiff, reduceIte, reduceCtorEq, tysA, tyA, Ty.enc, Ty.encs])))
    refine ⟨fun h => ?_, fun h => ?_⟩
    · (repeat (first
      | refine Run.seq ?_
      | refine Run.skip ?_
      | refine Run.block ?_
      | refine Run.blk ?_
      | (refine Run.exit rfl ?_)
      | (refine Run.reg mixed ?_; simp -implicitDefEqProofs only [go_sem, eq_self, Nat.reduceEqDiff, Nat.reduceBEq, Nat.reduceAdd, Nat.reduceLeDiff, reduceIte, reduceCtorEq, tysA, tyA, Ty.enc, Ty.encs])
      | (refine Run.condM ?_; simp -implicitDefEqProofs only [go_sem, eq_self, Nat.reduceEqDiff, Nat.reduceBEq, Nat.reduceAdd, Nat.reduceLeDiff, reduceIte, reduceCtorEq, tysA, tyA, Ty.enc, Ty.encs])))
      simp -implicitDefEqProofs only [he, go_sem, eq_self, Nat.reduceEqDiff, Nat.reduceBEq, Nat.reduceAdd, Nat.reduceLeDiff, reduceIte, reduceCtorEq, tysA, tyA, Ty.enc, Ty.encs]
      (repeat (first
      | refine Run.seq ?_
      | refine Run.skip ?_
      | refine Run.block ?_
      | refine Run.blk ?_
      | (refine Run.exit rfl ?_)
      | (refine Run.reg mixed ?_; simp -implicitDefEqProofs only [go_sem, eq_self, Nat.reduceEqDiff, Nat.reduceBEq, Nat.reduceAdd, Nat.reduceLeDiff, reduceIte, reduceCtorEq, tysA, tyA, Ty.enc, Ty.encs])
      | (refine Run.condM ?_; simp -implicitDefEqProofs only [go_sem, eq_self, Nat.reduceEqDiff, Nat.reduceBEq, Nat.reduceAdd, Nat.reduceLeDiff, reduceIte, reduceCtorEq, tysA, tyA, Ty.enc, Ty.encs])))
      refine XPCall.mk rfl (ih (.mk kd' nm' al) _ (by omega)) ?_
      generalize hu : (Ty.mk kd' nm' al).subst args = u at *
      obtain ⟨k2, n2, a2⟩ := u
      simp -implicitDefEqProofs only [go_sem, eq_self, Nat.reduceEqDiff, Nat.reduceBEq, Nat.reduceAdd, Nat.reduceLeDiff, reduceIte, reduceCtorEq, tysA, tyA, Ty.enc, Ty.encs]
      refine XApp.own ho rfl (by simp) (by simp [encs_len, substs_length]; omega) (by decide) (fun v2 σ2 ho2 hbk => ?_)
      simp -implicitDefEqProofs only [ho2.cells, ho2.cell, go_sem, eq_self, Nat.reduceEqDiff, Nat.reduceBEq, Nat.reduceAdd, Nat.reduceLeDiff, reduceIte, reduceCtorEq, tysA, tyA, Ty.enc, Ty.encs]
      (repeat (first
      | refine Run.seq ?_
      | refine Run.skip ?_
      | refine Run.block ?_
      | refine Run.blk ?_
      | (refine Run.exit rfl ?_)
      | (refine Run.reg mixed ?_; simp -implicitDefEqProofs only [go_sem, eq_self, Nat.reduceEqDiff, Nat.reduceBEq, Nat.reduceAdd, Nat.reduceLeDiff, reduceIte, reduceCtorEq, tysA, tyA, Ty.enc, Ty.encs])
      | (refine Run.condM ?_; simp -implicitDefEqProofs only [go_sem, eq_self, Nat.reduceEqDiff, Nat.reduceBEq, Nat.reduceAdd, Nat.reduceLeDiff, reduceIte, reduceCtorEq, tysA, tyA, Ty.enc, Ty.encs])))
      rw [wrap_succ (by omega)]
      refine ihm (i + 1) (by omega) v2 σ2 ?_
      rw [hs1, substs_snoc, encs_append, hu]
      exact ho2
    · simp at h; omega

theorem typing_Subst_step (n : Nat) (args : List Ty) (ih : ∀ (t : Ty) (σ : Heap), t.size ≤ n → ACalls Try.prog 14 [tyA t, tysA args] σ (fun v σ' => v = tyA (t.subst args) ∧ σ' = σ))
    (hnil : ∀ (t : Ty) (σ : Heap), t ∈ args → ACalls Try.prog 14 [tyA t, tysA []] σ (fun v σ' => v = tyA t ∧ σ' = σ))
    (l : List Ty) (kd nm : Int) (hl : Ty.sizes l ≤ n) (hn : n ≤ 1000000) (σ : Heap) :
    ACalls Try.prog 14 [tyA (.mk kd nm l), tysA args] σ (fun v σ' => v = tyA ((Ty.mk kd nm l).subst args) ∧ σ' = σ) := by
  refine i_typing_Subst (by simp) ?_
  rw [argF_2]
  (repeat (first
      | refine Run.seq ?_
      | refine Run.skip ?_
      | refine Run.block ?_
      | refine Run.blk ?_
      | (refine Run.exit rfl ?_)))
  (refine Run.reg mixed ?_; simp -implicitDefEqProofs only [go_sem, eq_self, Nat.reduceEqDiff, Nat.reduceBEq, Nat.reduceAdd, Nat.reduceLeDiff, reduceIte, reduceCtorEq, tysA, tyA, Ty.enc, Ty.encs])
  (repeat (first
      | refine Run.seq ?_
      | refine Run.skip ?_
      | refine Run.block ?_
      | refine Run.blk ?_
      | (refine Run.exit rfl ?_)))
  refine Run.regCut mixed (put 1 (tysA args) (put 2 (.lp 2 0) (put 4 (.lp 4 0) (put 22 (.d (.bool ((kd == 4) && decide (0 ≤ nm) && decide (nm < args.length)))) U))))
    (putL 2 [.d (.int .i64 kd), .d (.int .i64 nm), tysA l] (putL 4 [.d (.int .i64 0), .d (.int .i64 0), .nils] E)) σ ?_ ?_
  · cases h1 : (kd == 4)
    · simp -implicitDefEqProofs only [h1, go_sem, eq_self, Nat.reduceEqDiff, Nat.reduceBEq, Nat.reduceAdd, Nat.reduceLeDiff, reduceIte, reduceCtorEq, tysA, tyA, Ty.enc, Ty.encs]
    · cases h2 : decide (0 ≤ nm)
      · simp -implicitDefEqProofs only [h1, h2, go_sem, eq_self, Nat.reduceEqDiff, Nat.reduceBEq, Nat.reduceAdd, Nat.reduceLeDiff, reduceIte, reduceCtorEq, tysA, tyA, Ty.enc, Ty.encs]
      · simp -implicitDefEqProofs only [h1, h2, encs_len, go_sem, eq_self, Nat.reduceEqDiff, Nat.reduceBEq, Nat.reduceAdd, Nat.reduceLeDiff, reduceIte, reduceCtorEq, tysA, tyA, Ty.enc, Ty.encs]
  · (repeat (first
      | refine Run.seq ?_
      | refine Run.skip ?_
      | refine Run.block ?_
      | refine Run.blk ?_
      | (refine Run.exit rfl ?_)
      | (refine Run.reg mixed ?_; simp -implicitDefEqProofs only [go_sem, eq_self, Nat.reduceEqDiff, Nat.reduceBEq, Nat.reduceAdd, Nat.reduceLeDiff, reduceIte, reduceCtorEq, tysA, tyA, Ty.enc, Ty.encs])
      | (refine Run.condM ?_; simp -implicitDefEqProofs only [go_sem, eq_self, Nat.reduceEqDiff, Nat.reduceBEq, Nat.reduceAdd, Nat.reduceLeDiff, reduceIte, reduceCtorEq, tysA, tyA, Ty.enc, Ty.encs])))
    refine ⟨fun h => ?_, fun h => ?_⟩
    · simp only [Bool.and_eq_true, beq_iff_eq, decide_eq_true_eq] at h
      obtain ⟨⟨h1, h2⟩, h3⟩ := h
      obtain ⟨i, rfl⟩ := Int.eq_ofNat_of_zero_le h2
      have hlt : i < args.length := by omega
      obtain ⟨t, ht⟩ : ∃ t, args[i]? = some t := ⟨args[i], by simp [hlt]⟩
      have hmem := List.mem_of_getElem? ht
      have hsub : (Ty.mk kd i l).subst args = t := by
        simp only [Ty.subst]; rw [if_pos ⟨h1, h2, h3⟩]; simp [ht]
      rw [hsub]
      obtain ⟨k2, n2, a2⟩ := t
      have he := encs_at ht
      (repeat (first
      | refine Run.seq ?_
      | refine Run.skip ?_
      | refine Run.block ?_
      | refine Run.blk ?_
      | (refine Run.exit rfl ?_)
      | (refine Run.reg mixed ?_; simp -implicitDefEqProofs only [go_sem, eq_self, Nat.reduceEqDiff, Nat.reduceBEq, Nat.reduceAdd, Nat.reduceLeDiff, reduceIte, reduceCtorEq, tysA, tyA, Ty.enc, Ty.encs])
      | (refine Run.condM ?_; simp -implicitDefEqProofs only [go_sem, eq_self, Nat.reduceEqDiff, Nat.reduceBEq, Nat.reduceAdd, Nat.reduceLeDiff, reduceIte, reduceCtorEq, tysA, tyA, Ty.enc, Ty.encs])))
      simp -implicitDefEqProofs only [he, go_sem, eq_self, Nat.reduceEqDiff, Nat.reduceBEq, Nat.reduceAdd, Nat.reduceLeDiff, reduceIte, reduceCtorEq, tysA, tyA, Ty.enc, Ty.encs]
      refine XCall.mk rfl (ACalls.plain (hnil (.mk k2 n2 a2) _ hmem)) ?_
      rintro v σ' ⟨rfl, rfl⟩
      simp -implicitDefEqProofs only [go_sem, eq_self, Nat.reduceEqDiff, Nat.reduceBEq, Nat.reduceAdd, Nat.reduceLeDiff, reduceIte, reduceCtorEq, tysA, tyA, Ty.enc, Ty.encs]
      (repeat (first
      | refine Run.seq ?_
      | refine Run.skip ?_
      | refine Run.block ?_
      | refine Run.blk ?_
      | (refine Run.exit rfl ?_)
      | (refine Run.reg mixed ?_; simp -implicitDefEqProofs only [go_sem, eq_self, Nat.reduceEqDiff, Nat.reduceBEq, Nat.reduceAdd, Nat.reduceLeDiff, reduceIte, reduceCtorEq, tysA, tyA, Ty.enc, Ty.encs])
      | (refine Run.condM ?_; simp -implicitDefEqProofs only [go_sem, eq_self, Nat.reduceEqDiff, Nat.reduceBEq, Nat.reduceAdd, Nat.reduceLeDiff, reduceIte, reduceCtorEq, tysA, tyA, Ty.enc, Ty.encs])))
      refine Run.retP g_typing_Subst (Heap.le_refl _) ?_
      simp -implicitDefEqProofs only [rs_typing_Subst, go_sem, eq_self, Nat.reduceEqDiff, Nat.reduceBEq, Nat.reduceAdd, Nat.reduceLeDiff, reduceIte, reduceCtorEq, tysA, tyA, Ty.enc, Ty.encs]
    · have hno : ¬ (kd = 4 ∧ 0 ≤ nm ∧ nm < args.length) := by
        simp only [Bool.and_eq_false_iff, beq_eq_false_iff_ne, decide_eq_false_iff_not] at h
        omega
      have hsub : (Ty.mk kd nm l).subst args = .mk kd nm (Ty.substs args l) := by simp only [Ty.subst]; rw [if_neg hno]
      rw [hsub]
      (repeat (first
      | refine Run.seq ?_
      | refine Run.skip ?_
      | refine Run.block ?_
      | refine Run.blk ?_
      | (refine Run.exit rfl ?_)
      | (refine Run.reg mixed ?_; simp -implicitDefEqProofs only [go_sem, eq_self, Nat.reduceEqDiff, Nat.reduceBEq, Nat.reduceAdd, Nat.reduceLeDiff, reduceIte, reduceCtorEq, tysA, tyA, Ty.enc, Ty.encs])
      | (refine Run.condM ?_; simp -implicitDefEqProofs only [go_sem, eq_self, Nat.reduceEqDiff, Nat.reduceBEq, Nat.reduceAdd, Nat.reduceLeDiff, reduceIte, reduceCtorEq, tysA, tyA, Ty.enc, Ty.encs])))
      refine Run.loopA ?_
      rw [encs_len]
      refine typing_Subst_loop n args ih l kd nm hl hn σ _ (fun F L v σ' ho hF4 hF5 hL4 hL5 => ?_) l.length 0 (by omega) _ _ (by simpa [Ty.substs, Ty.encs] using OwnS.nil σ 25 3)
      (repeat (first
      | refine Run.seq ?_
      | refine Run.skip ?_
      | refine Run.block ?_
      | refine Run.blk ?_
      | (refine Run.exit rfl ?_)
      | (refine Run.reg mixed ?_; simp -implicitDefEqProofs only [hF4, hF5, hL4, hL5, ho.cell, go_sem, eq_self, Nat.reduceEqDiff, Nat.reduceBEq, Nat.reduceAdd, Nat.reduceLeDiff, reduceIte, reduceCtorEq, tysA, tyA, Ty.enc, Ty.encs])
      | (refine Run.condM ?_; simp -implicitDefEqProofs only [hF4, hF5, hL4, hL5, ho.cell, go_sem, eq_self, Nat.reduceEqDiff, Nat.reduceBEq, Nat.reduceAdd, Nat.reduceLeDiff, reduceIte, reduceCtorEq, tysA, tyA, Ty.enc, Ty.encs])))
      refine Run.retP g_typing_Subst ho.le ?_
      simp -implicitDefEqProofs only [rs_typing_Subst, ho.plain, go_sem, eq_self, Nat.reduceEqDiff, Nat.reduceBEq, Nat.reduceAdd, Nat.reduceLeDiff, reduceIte, reduceCtorEq, tysA, tyA, Ty.enc, Ty.encs]

theorem typing_Subst_nil (n : Nat) : ∀ (t : Ty) (σ : Heap), t.size ≤ n → n ≤ 1000000 → ACalls Try.prog 14 [tyA t, tysA []] σ (fun v σ' => v = tyA t ∧ σ' = σ) := by
  induction n with
  | zero => intro t σ h; have := size_pos t; omega
  | succ n ih =>
    intro t σ ht hn
    obtain ⟨kd, nm, l⟩ := t
    have hsl : Ty.sizes l ≤ n := by simp only [Ty.size] at ht; omega
    have := typing_Subst_step n [] (fun t σ h => by rw [subst_nil]; exact ih t σ h (by omega)) (fun t σ h => by simp at h) l kd nm hsl (by omega) σ
    rwa [subst_nil] at this

theorem typing_Subst_ok (args : List Ty) (ha : ∀ t ∈ args, t.size ≤ 1000000) (n : Nat) : ∀ (t : Ty) (σ : Heap), t.size ≤ n → n ≤ 1000000 → ACalls Try.prog 14 [tyA t, tysA args] σ (fun v σ' => v = tyA (t.subst args) ∧ σ' = σ) := by
  induction n with
  | zero => intro t σ h; have := size_pos t; omega
  | succ n ih =>
    intro t σ ht hn
    obtain ⟨kd, nm, l⟩ := t
    have hsl : Ty.sizes l ≤ n := by simp only [Ty.size] at ht; omega
    exact typing_Subst_step n args (fun t σ h => ih t σ h (by omega)) (fun t σ h => typing_Subst_nil 1000000 t σ (ha t h) (Nat.le_refl _)) l kd nm hsl (by omega) σ
end Go.Ab

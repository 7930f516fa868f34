/- typing.Fields, the loops over the constructor's types, and the whole. Conditions: the type and the data types keep to their guards. -/
import Derived.Test.YtbkmmfbpmnfdlaaXFd
set_option linter.unusedSimpArgs false
set_option linter.unusedVariables false
namespace Go.Ab
open Go.Proofs

theorem small_not {args : List Ty} {l : List Ty} {i : Nat} {t : Ty} (h : l[i]? = some t) (hx : ¬ (t.subst args).size ≤ 200) : small (Ty.substs args l) = false := by
  refine all_not (i := i) (x := t.subst args) ?_ (by simpa using hx)
  rw [substs_get, h]; rfl
theorem small_take {args : List Ty} {l : List Ty} {i : Nat} {t : Ty} (h : l[i]? = some t) (hx : (t.subst args).size ≤ 200) (hs : small (Ty.substs args (l.take i)) = true) : small (Ty.substs args (l.take (i + 1))) = true := by
  rw [take_snoc h, substs_snoc, small, List.all_append, Bool.and_eq_true]
  exact ⟨hs, by simpa using hx⟩

theorem typing_Fields_check (args l : List Ty) (ha : ∀ t ∈ args, t.size ≤ 250) (hl : Ty.sizes l ≤ 20) (c : DV) (cs ds : List DV) (σ0 σ : Heap) (hle : σ0.le σ) (j : Nat) (hj : σ.blk j = some (szsA args)) (K : AV → Heap → Prop) {k : List CI}
    (hK : small (Ty.substs args l) = false → K (fieldsA none) σ0)
    (hk : small (Ty.substs args l) = true → ∀ F L, F 2 = .d c → F 4 = .lp 4 0 → F 8 = .lp 8 0 → L = putL 4 (cs.map AV.d) (putL 8 (ds.map AV.d) E) → Run x_typing_Fields K k F L σ) :
    ∀ (m i : Nat), m + i = l.length → small (Ty.substs args (l.take i)) = true → Run x_typing_Fields K (.again c_typing_Fields_L1 :: .blk 2 :: k)
      (put 2 (.d c) (put 4 (.lp 4 0) (put 8 (.lp 8 0) (put 9 (.ms j args.length) (put 77 (tysA l) (put 78 (.d (.int .i64 l.length)) (put 79 (.d (.int .i64 i)) U)))))))
      (putL 4 (cs.map AV.d) (putL 8 (ds.map AV.d) E)) σ := by
  intro m
  have hll := len_sizes l
  induction m with
  | zero =>
    intro i hi hs
    refine Run.again ?_
    (repeat (first
      | refine Run.seq ?_
      | refine Run.skip ?_
      | refine Run.block ?_
      | refine Run.blk ?_
      | (refine Run.exit rfl ?_)
      | (refine Run.reg mixed ?_; simp -implicitDefEqProofs only [go_sem, eq_self, Nat.reduceEqDiff, Nat.reduceBEq, Nat.reduceAdd, Nat.reduceLeDiff, reduceIte, reduceCtorEq, tysA, tyA, Ty.enc, Ty.encs])
      | (refine Run.condM ?_; simp -implicitDefEqProofs only [go_sem, eq_self, Nat.reduceEqDiff, Nat.reduceBEq, Nat.reduceAdd, Nat.reduceLeDiff, reduceIte, reduceCtorEq, tysA, tyA, Ty.enc, Ty.encs])))
    refine ⟨fun h => ?_, fun h => ?_⟩
    · simp at h; omega
    · (repeat (first
      | refine Run.seq ?_
      | refine Run.skip ?_
      | refine Run.block ?_
      | refine Run.blk ?_
      | (refine Run.exit rfl ?_)
      | (refine Run.reg mixed ?_; simp -implicitDefEqProofs only [go_sem, eq_self, Nat.reduceEqDiff, Nat.reduceBEq, Nat.reduceAdd, Nat.reduceLeDiff, reduceIte, reduceCtorEq, tysA, tyA, Ty.enc, Ty.encs])
      | (refine Run.condM ?_; simp -implicitDefEqProofs only [go_sem, eq_self, Nat.reduceEqDiff, Nat.reduceBEq, Nat.reduceAdd, Nat.reduceLeDiff, reduceIte, reduceCtorEq, tysA, tyA, Ty.enc, Ty.encs])))
      have : l.take i = l := List.take_of_length_le (by omega)
      rw [this] at hs
      exact hk hs _ _ rfl rfl rfl rfl
  | succ m ihm =>
    intro i hi hs
    have hlt : i < l.length := by omega
    obtain ⟨t, ht⟩ : ∃ t, l[i]? = some t := ⟨l[i], by simp [hlt]⟩
    have hsz := sizes_get ht
    have hsub := subst_size args 250 (by omega) ha t
    have hn := fun h => small_not (args := args) ht h
    have hy := fun h => small_take (args := args) ht h hs
    obtain ⟨kd', nm', al⟩ := t
    have he := encs_at ht
    refine Run.again ?_
    (repeat (first
      | refine Run.seq ?_
      | refine Run.skip ?_
      | refine Run.block ?_
      | refine Run.blk ?_
      | (refine Run.exit rfl ?_)
      | (refine Run.reg mixed ?_; simp -implicitDefEqProofs only [go_sem, eq_self, Nat.reduceEqDiff, Nat.reduceBEq, Nat.reduceAdd, Nat.reduceLeDiff, reduceIte, reduceCtorEq, tysA, tyA, Ty.enc, Ty.encs])
      | (refine Run.condM ?_; simp -implicitDefEqProofs only [go_sem, eq_self, Nat.reduceEqDiff, Nat.reduceBEq, Nat.reduceAdd, Nat.reduceLeDiff, reduceIte, reduceCtorEq, tysA, tyA, Ty.enc, Ty.encs])))
    refine ⟨fun h => ?_, fun h => ?_⟩
    · (repeat (first
      | refine Run.seq ?_
      | refine Run.skip ?_
      | refine Run.block ?_
      | refine Run.blk ?_
      | (refine Run.exit rfl ?_)
      | (refine Run.reg mixed ?_; simp -implicitDefEqProofs only [go_sem, eq_self, Nat.reduceEqDiff, Nat.reduceBEq, Nat.reduceAdd, Nat.reduceLeDiff, reduceIte, reduceCtorEq, tysA, tyA, Ty.enc, Ty.encs])
      | (refine Run.condM ?_; simp -implicitDefEqProofs only [go_sem, eq_self, Nat.reduceEqDiff, Nat.reduceBEq, Nat.reduceAdd, Nat.reduceLeDiff, reduceIte, reduceCtorEq, tysA, tyA, Ty.enc, Ty.encs])))
      simp -implicitDefEqProofs only [he, go_sem, eq_self, Nat.reduceEqDiff, Nat.reduceBEq, Nat.reduceAdd, Nat.reduceLeDiff, reduceIte, reduceCtorEq, tysA, tyA, Ty.enc, Ty.encs]
      (repeat (first
      | refine Run.seq ?_
      | refine Run.skip ?_
      | refine Run.block ?_
      | refine Run.blk ?_
      | (refine Run.exit rfl ?_)
      | (refine Run.reg mixed ?_; simp -implicitDefEqProofs only [go_sem, eq_self, Nat.reduceEqDiff, Nat.reduceBEq, Nat.reduceAdd, Nat.reduceLeDiff, reduceIte, reduceCtorEq, tysA, tyA, Ty.enc, Ty.encs])
      | (refine Run.condM ?_; simp -implicitDefEqProofs only [go_sem, eq_self, Nat.reduceEqDiff, Nat.reduceBEq, Nat.reduceAdd, Nat.reduceLeDiff, reduceIte, reduceCtorEq, tysA, tyA, Ty.enc, Ty.encs])))
      refine XCall.mk rfl (typing_substSize_ok args j σ hj 20 (.mk kd' nm' al) (by omega) (by omega) (by omega)) ?_
      rintro v σ' ⟨⟨s, rfl, hss⟩, rfl⟩
      simp -implicitDefEqProofs only [go_sem, eq_self, Nat.reduceEqDiff, Nat.reduceBEq, Nat.reduceAdd, Nat.reduceLeDiff, reduceIte, reduceCtorEq, tysA, tyA, Ty.enc, Ty.encs]
      (repeat (first
      | refine Run.seq ?_
      | refine Run.skip ?_
      | refine Run.block ?_
      | refine Run.blk ?_
      | (refine Run.exit rfl ?_)
      | (refine Run.reg mixed ?_; simp -implicitDefEqProofs only [go_sem, eq_self, Nat.reduceEqDiff, Nat.reduceBEq, Nat.reduceAdd, Nat.reduceLeDiff, reduceIte, reduceCtorEq, tysA, tyA, Ty.enc, Ty.encs])
      | (refine Run.condM ?_; simp -implicitDefEqProofs only [go_sem, eq_self, Nat.reduceEqDiff, Nat.reduceBEq, Nat.reduceAdd, Nat.reduceLeDiff, reduceIte, reduceCtorEq, tysA, tyA, Ty.enc, Ty.encs])))
      refine ⟨fun h => ?_, fun h => ?_⟩
      · (repeat (first
      | refine Run.seq ?_
      | refine Run.skip ?_
      | refine Run.block ?_
      | refine Run.blk ?_
      | (refine Run.exit rfl ?_)
      | (refine Run.reg mixed ?_; simp -implicitDefEqProofs only [go_sem, eq_self, Nat.reduceEqDiff, Nat.reduceBEq, Nat.reduceAdd, Nat.reduceLeDiff, reduceIte, reduceCtorEq, tysA, tyA, Ty.enc, Ty.encs])
      | (refine Run.condM ?_; simp -implicitDefEqProofs only [go_sem, eq_self, Nat.reduceEqDiff, Nat.reduceBEq, Nat.reduceAdd, Nat.reduceLeDiff, reduceIte, reduceCtorEq, tysA, tyA, Ty.enc, Ty.encs])))
        simp only [decide_eq_true_eq] at h
        refine Run.retP g_typing_Fields hle ?_
        simp -implicitDefEqProofs only [rs_typing_Fields, go_sem, eq_self, Nat.reduceEqDiff, Nat.reduceBEq, Nat.reduceAdd, Nat.reduceLeDiff, reduceIte, reduceCtorEq, tysA, tyA, Ty.enc, Ty.encs]
        exact hK (hn (by have := hss.1; omega))
      · (repeat (first
      | refine Run.seq ?_
      | refine Run.skip ?_
      | refine Run.block ?_
      | refine Run.blk ?_
      | (refine Run.exit rfl ?_)
      | (refine Run.reg mixed ?_; simp -implicitDefEqProofs only [go_sem, eq_self, Nat.reduceEqDiff, Nat.reduceBEq, Nat.reduceAdd, Nat.reduceLeDiff, reduceIte, reduceCtorEq, tysA, tyA, Ty.enc, Ty.encs])
      | (refine Run.condM ?_; simp -implicitDefEqProofs only [go_sem, eq_self, Nat.reduceEqDiff, Nat.reduceBEq, Nat.reduceAdd, Nat.reduceLeDiff, reduceIte, reduceCtorEq, tysA, tyA, Ty.enc, Ty.encs])))
        simp only [decide_eq_false_iff_not] at h
        rw [wrap_succ (by omega)]
        exact ihm (i + 1) (by omega) (hy (by have := hss.2 (by omega); omega))
    · simp at h; omega

theorem typing_Fields_build (args l : List Ty) (ha : ∀ t ∈ args, t.size ≤ 250) (hl : Ty.sizes l ≤ 20) (kd nm : Int) (σ : Heap) (K : AV → Heap → Prop) {k : List CI}
    (hk : ∀ F L v σ', OwnS σ 25 3 (Ty.encs (Ty.substs args l)) v σ' → F 14 = v → Run x_typing_Fields K k F L σ') :
    ∀ (m i : Nat), m + i = l.length → ∀ v σ', OwnS σ 25 3 (Ty.encs (Ty.substs args (l.take i))) v σ' → Run x_typing_Fields K (.again c_typing_Fields_L2 :: .blk 4 :: k)
      (put 4 (.lp 4 0) (put 14 v (put 93 (tysA l) (put 94 (.d (.int .i64 l.length)) (put 95 (.d (.int .i64 i)) U)))))
      (putL 4 [.d (.int .i64 kd), .d (.int .i64 nm), tysA args] E) σ' := by
  intro m
  have hll := len_sizes l
  induction m with
  | zero =>
    intro i hi v σ' ho
    refine Run.again ?_
    (repeat (first
      | refine Run.seq ?_
      | refine Run.skip ?_
      | refine Run.block ?_
      | refine Run.blk ?_
      | (refine Run.exit rfl ?_)
      | (refine Run.reg mixed ?_; simp -implicitDefEqProofs only [go_sem, eq_self, Nat.reduceEqDiff, Nat.reduceBEq, Nat.reduceAdd, Nat.reduceLeDiff, reduceIte, reduceCtorEq, tysA, tyA, Ty.enc, Ty.encs])
      | (refine Run.condM ?_; simp -implicitDefEqProofs only [go_sem, eq_self, Nat.reduceEqDiff, Nat.reduceBEq, Nat.reduceAdd, Nat.reduceLeDiff, reduceIte, reduceCtorEq, tysA, tyA, Ty.enc, Ty.encs])))
    refine ⟨fun h => ?_, fun h => ?_⟩
    · simp at h; omega
    · (repeat (first
      | refine Run.seq ?_
      | refine Run.skip ?_
      | refine Run.block ?_
      | refine Run.blk ?_
      | (refine Run.exit rfl ?_)
      | (refine Run.reg mixed ?_; simp -implicitDefEqProofs only [go_sem, eq_self, Nat.reduceEqDiff, Nat.reduceBEq, Nat.reduceAdd, Nat.reduceLeDiff, reduceIte, reduceCtorEq, tysA, tyA, Ty.enc, Ty.encs])
      | (refine Run.condM ?_; simp -implicitDefEqProofs only [go_sem, eq_self, Nat.reduceEqDiff, Nat.reduceBEq, Nat.reduceAdd, Nat.reduceLeDiff, reduceIte, reduceCtorEq, tysA, tyA, Ty.enc, Ty.encs])))
      have : l.take i = l := List.take_of_length_le (by omega)
      rw [this] at ho
      exact hk _ _ v σ' ho rfl
  | succ m ihm =>
    intro i hi v σ' ho
    have hlt : i < l.length := by omega
    obtain ⟨t, ht⟩ : ∃ t, l[i]? = some t := ⟨l[i], by simp [hlt]⟩
    have hs1 : l.take (i + 1) = l.take i ++ [t] := take_snoc ht
    have hsz := sizes_get ht
    obtain ⟨kd', nm', al⟩ := t
    have he := encs_at ht
    refine Run.again ?_
    (repeat (first
      | refine Run.seq ?_
      | refine Run.skip ?_
      | refine Run.block ?_
      | refine Run.blk ?_
      | (refine Run.exit rfl ?_)
      | (refine Run.reg mixed ?_; simp -implicitDefEqProofs only [go_sem, eq_self, Nat.reduceEqDiff, Nat.reduceBEq, Nat.reduceAdd, Nat.reduceLeDiff, reduceIte, reduceCtorEq, tysA, tyA, Ty.enc, Ty.encs])
      | (refine Run.condM ?_; simp -implicitDefEqProofs only [go_sem, eq_self, Nat.reduceEqDiff, Nat.reduceBEq, Nat.reduceAdd, Nat.reduceLeDiff, reduceIte, reduceCtorEq, tysA, tyA, Ty.enc, Ty.encs])))
    refine ⟨fun h => ?_, fun h => ?_⟩
    · (repeat (first
      | refine Run.seq ?_
      | refine Run.skip ?_
      | refine Run.block ?_
      | refine Run.blk ?_
      | (refine Run.exit rfl ?_)
      | (refine Run.reg mixed ?_; simp -implicitDefEqProofs only [go_sem, eq_self, Nat.reduceEqDiff, Nat.reduceBEq, Nat.reduceAdd, Nat.reduceLeDiff, reduceIte, reduceCtorEq, tysA, tyA, Ty.enc, Ty.encs])
      | (refine Run.condM ?_; simp -implicitDefEqProofs only [go_sem, eq_self, Nat.reduceEqDiff, Nat.reduceBEq, Nat.reduceAdd, Nat.reduceLeDiff, reduceIte, reduceCtorEq, tysA, tyA, Ty.enc, Ty.encs])))
      simp -implicitDefEqProofs only [he, ho.lpOf, go_sem, eq_self, Nat.reduceEqDiff, Nat.reduceBEq, Nat.reduceAdd, Nat.reduceLeDiff, reduceIte, reduceCtorEq, tysA, tyA, Ty.enc, Ty.encs]
      (repeat (first
      | refine Run.seq ?_
      | refine Run.skip ?_
      | refine Run.block ?_
      | refine Run.blk ?_
      | (refine Run.exit rfl ?_)
      | (refine Run.reg mixed ?_; simp -implicitDefEqProofs only [go_sem, eq_self, Nat.reduceEqDiff, Nat.reduceBEq, Nat.reduceAdd, Nat.reduceLeDiff, reduceIte, reduceCtorEq, tysA, tyA, Ty.enc, Ty.encs])
      | (refine Run.condM ?_; simp -implicitDefEqProofs only [go_sem, eq_self, Nat.reduceEqDiff, Nat.reduceBEq, Nat.reduceAdd, Nat.reduceLeDiff, reduceIte, reduceCtorEq, tysA, tyA, Ty.enc, Ty.encs])))
      refine XCall.mk rfl (typing_Subst_ok args (fun t h => by have := ha t h; omega) 20 (.mk kd' nm' al) _ (by omega) (by omega)) ?_
      rintro v σ' ⟨rfl, rfl⟩
      generalize hu : (Ty.mk kd' nm' al).subst args = u at *
      obtain ⟨k2, n2, a2⟩ := u
      simp -implicitDefEqProofs only [go_sem, eq_self, Nat.reduceEqDiff, Nat.reduceBEq, Nat.reduceAdd, Nat.reduceLeDiff, reduceIte, reduceCtorEq, tysA, tyA, Ty.enc, Ty.encs]
      refine XApp.own ho rfl (by simp) (by simp [encs_len, substs_length]; omega) (by decide) (fun v2 σ2 ho2 hbk => ?_)
      simp -implicitDefEqProofs only [ho2.cells, ho2.cell, go_sem, eq_self, Nat.reduceEqDiff, Nat.reduceBEq, Nat.reduceAdd, Nat.reduceLeDiff, reduceIte, reduceCtorEq, tysA, tyA, Ty.enc, Ty.encs]
      (repeat (first
      | refine Run.seq ?_
      | refine Run.skip ?_
      | refine Run.block ?_
      | refine Run.blk ?_
      | (refine Run.exit rfl ?_)
      | (refine Run.reg mixed ?_; simp -implicitDefEqProofs only [go_sem, eq_self, Nat.reduceEqDiff, Nat.reduceBEq, Nat.reduceAdd, Nat.reduceLeDiff, reduceIte, reduceCtorEq, tysA, tyA, Ty.enc, Ty.encs])
      | (refine Run.condM ?_; simp -implicitDefEqProofs only [go_sem, eq_self, Nat.reduceEqDiff, Nat.reduceBEq, Nat.reduceAdd, Nat.reduceLeDiff, reduceIte, reduceCtorEq, tysA, tyA, Ty.enc, Ty.encs])))
      rw [wrap_succ (by omega)]
      refine ihm (i + 1) (by omega) v2 σ2 ?_
      rw [hs1, substs_snoc, encs_append, hu]
      exact ho2
    · simp at h; omega

theorem typing_Fields_ok (data : List Dat) (t : Ty) (c : Int) (hd : datsOk data = true) (ht : t.size ≤ 250) (σ : Heap) :
    ACalls Try.prog 7 [dsA data, tyA t, .d (.int .i64 c)] σ (fun v σ' => v = fieldsA (fieldsOf data t c) ∧ σ' = σ) := by
  obtain ⟨kd, nm, l⟩ := t
  have hsl : Ty.sizes l ≤ 250 := by simp only [Ty.size] at ht; omega
  have hll := len_sizes l
  have ha : ∀ t ∈ l, t.size ≤ 250 := fun t h => by have := mem_size h; omega
  refine i_typing_Fields (by simp) ?_
  rw [argF_3]
  (repeat (first
      | refine Run.seq ?_
      | refine Run.skip ?_
      | refine Run.block ?_
      | refine Run.blk ?_
      | (refine Run.exit rfl ?_)))
  (refine Run.reg mixed ?_; simp -implicitDefEqProofs only [dsA, go_sem, eq_self, Nat.reduceEqDiff, Nat.reduceBEq, Nat.reduceAdd, Nat.reduceLeDiff, reduceIte, reduceCtorEq, tysA, tyA, Ty.enc, Ty.encs])
  (repeat (first
      | refine Run.seq ?_
      | refine Run.skip ?_
      | refine Run.block ?_
      | refine Run.blk ?_
      | (refine Run.exit rfl ?_)))
  refine Run.regCut mixed (put 0 (.d (.sl (data.map Dat.enc))) (put 2 (.d (.int .i64 c)) (put 4 (.lp 4 0) (put 31 (.d (.bool ((kd != 5) || decide (nm < 0) || decide ((data.length : Int) ≤ nm)))) U))))
    (putL 4 [.d (.int .i64 kd), .d (.int .i64 nm), tysA l] E) σ ?_ ?_
  · cases h1 : (kd != 5)
    · cases h2 : decide (nm < 0)
      · simp -implicitDefEqProofs only [h1, h2, List.length_map, go_sem, eq_self, Nat.reduceEqDiff, Nat.reduceBEq, Nat.reduceAdd, Nat.reduceLeDiff, reduceIte, reduceCtorEq, tysA, tyA, Ty.enc, Ty.encs]
      · simp -implicitDefEqProofs only [h1, h2, go_sem, eq_self, Nat.reduceEqDiff, Nat.reduceBEq, Nat.reduceAdd, Nat.reduceLeDiff, reduceIte, reduceCtorEq, tysA, tyA, Ty.enc, Ty.encs]
    · simp -implicitDefEqProofs only [h1, go_sem, eq_self, Nat.reduceEqDiff, Nat.reduceBEq, Nat.reduceAdd, Nat.reduceLeDiff, reduceIte, reduceCtorEq, tysA, tyA, Ty.enc, Ty.encs]
  · (repeat (first
      | refine Run.seq ?_
      | refine Run.skip ?_
      | refine Run.block ?_
      | refine Run.blk ?_
      | (refine Run.exit rfl ?_)
      | (refine Run.reg mixed ?_; simp -implicitDefEqProofs only [go_sem, eq_self, Nat.reduceEqDiff, Nat.reduceBEq, Nat.reduceAdd, Nat.reduceLeDiff, reduceIte, reduceCtorEq, tysA, tyA, Ty.enc, Ty.encs])
      | (refine Run.condM ?_; simp -implicitDefEqProofs only [go_sem, eq_self, Nat.reduceEqDiff, Nat.reduceBEq, Nat.reduceAdd, Nat.reduceLeDiff, reduceIte, reduceCtorEq, tysA, tyA, Ty.enc, Ty.encs])))
    refine ⟨fun h => ?_, fun h => ?_⟩
    · (repeat (first
      | refine Run.seq ?_
      | refine Run.skip ?_
      | refine Run.block ?_
      | refine Run.blk ?_
      | (refine Run.exit rfl ?_)
      | (refine Run.reg mixed ?_; simp -implicitDefEqProofs only [go_sem, eq_self, Nat.reduceEqDiff, Nat.reduceBEq, Nat.reduceAdd, Nat.reduceLeDiff, reduceIte, reduceCtorEq, tysA, tyA, Ty.enc, Ty.encs])
      | (refine Run.condM ?_; simp -implicitDefEqProofs only [go_sem, eq_self, Nat.reduceEqDiff, Nat.reduceBEq, Nat.reduceAdd, Nat.reduceLeDiff, reduceIte, reduceCtorEq, tysA, tyA, Ty.enc, Ty.encs])))
      refine Run.retP g_typing_Fields (Heap.le_refl _) ?_
      simp -implicitDefEqProofs only [rs_typing_Fields, go_sem, eq_self, Nat.reduceEqDiff, Nat.reduceBEq, Nat.reduceAdd, Nat.reduceLeDiff, reduceIte, reduceCtorEq, tysA, tyA, Ty.enc, Ty.encs]
      have hno : ¬ (kd = 5 ∧ 0 ≤ nm ∧ nm < data.length) := by
        simp only [Bool.or_eq_true, bne_iff_ne, decide_eq_true_eq] at h
        omega
      have e : fieldsOf data (.mk kd nm l) c = none := by unfold fieldsOf; exact if_neg hno
      rw [e]
      rfl
    · simp only [Bool.or_eq_false_iff, bne_eq_false_iff_eq, decide_eq_false_iff_not] at h
      obtain ⟨⟨h1, h2⟩, h3⟩ := h
      have hyes : (kd = 5 ∧ 0 ≤ nm ∧ nm < data.length) := ⟨h1, by omega, by omega⟩
      obtain ⟨q, rfl⟩ := Int.eq_ofNat_of_zero_le (show 0 ≤ nm by omega)
      have hlt : q < data.length := by omega
      obtain ⟨d, hdat⟩ : ∃ d, data[q]? = some d := ⟨data[q], by simp [hlt]⟩
      have hf : fieldsOf data (.mk kd q l) c = if (l.length : Int) = d.vars ∧ 0 ≤ c ∧ c < d.cons.length then
          (d.cons[c.toNat]?).bind fun k => if small (Ty.substs l k.args) = true then some (Ty.substs l k.args) else none
        else none := by
        simp only [fieldsOf, Ty.kind, Ty.num, Ty.args, if_pos hyes, Int.toNat_natCast, hdat, Option.bind_some]
        rfl
      rw [hf]
      have hdok : d.ok = true := by
        simp only [datsOk, Bool.and_eq_true, List.all_eq_true] at hd
        exact hd.2 d (List.mem_of_getElem? hdat)
      obtain ⟨dn, dv, dc⟩ := d
      have he := dats_at hdat
      (repeat (first
      | refine Run.seq ?_
      | refine Run.skip ?_
      | refine Run.block ?_
      | refine Run.blk ?_
      | (refine Run.exit rfl ?_)
      | (refine Run.reg mixed ?_; simp -implicitDefEqProofs only [go_sem, eq_self, Nat.reduceEqDiff, Nat.reduceBEq, Nat.reduceAdd, Nat.reduceLeDiff, reduceIte, reduceCtorEq, tysA, tyA, Ty.enc, Ty.encs])
      | (refine Run.condM ?_; simp -implicitDefEqProofs only [go_sem, eq_self, Nat.reduceEqDiff, Nat.reduceBEq, Nat.reduceAdd, Nat.reduceLeDiff, reduceIte, reduceCtorEq, tysA, tyA, Ty.enc, Ty.encs])))
      simp -implicitDefEqProofs only [he, go_sem, eq_self, Nat.reduceEqDiff, Nat.reduceBEq, Nat.reduceAdd, Nat.reduceLeDiff, reduceIte, reduceCtorEq, tysA, tyA, Ty.enc, Ty.encs]
      (repeat (first
      | refine Run.seq ?_
      | refine Run.skip ?_
      | refine Run.block ?_
      | refine Run.blk ?_
      | (refine Run.exit rfl ?_)))
      refine Run.regCut mixed (put 2 (.d (.int .i64 c)) (put 4 (.lp 4 0) (put 8 (.lp 8 0) (put 53 (.d (.bool (((l.length : Int) != dv) || decide (c < 0) || decide ((dc.length : Int) ≤ c)))) U))))
        (putL 4 [.d (.int .i64 kd), .d (.int .i64 q), tysA l] (putL 8 [.d (.str dn), .d (.int .i64 dv), .d (.sl (dc.map Con.enc))] E)) σ ?_ ?_
      · cases h1 : ((l.length : Int) != dv)
        · cases h2 : decide (c < 0)
          · simp -implicitDefEqProofs only [h1, h2, List.length_map, encs_len, go_sem, eq_self, Nat.reduceEqDiff, Nat.reduceBEq, Nat.reduceAdd, Nat.reduceLeDiff, reduceIte, reduceCtorEq, tysA, tyA, Ty.enc, Ty.encs]
          · simp -implicitDefEqProofs only [h1, h2, encs_len, go_sem, eq_self, Nat.reduceEqDiff, Nat.reduceBEq, Nat.reduceAdd, Nat.reduceLeDiff, reduceIte, reduceCtorEq, tysA, tyA, Ty.enc, Ty.encs]
        · simp -implicitDefEqProofs only [h1, encs_len, go_sem, eq_self, Nat.reduceEqDiff, Nat.reduceBEq, Nat.reduceAdd, Nat.reduceLeDiff, reduceIte, reduceCtorEq, tysA, tyA, Ty.enc, Ty.encs]
      · (repeat (first
      | refine Run.seq ?_
      | refine Run.skip ?_
      | refine Run.block ?_
      | refine Run.blk ?_
      | (refine Run.exit rfl ?_)
      | (refine Run.reg mixed ?_; simp -implicitDefEqProofs only [go_sem, eq_self, Nat.reduceEqDiff, Nat.reduceBEq, Nat.reduceAdd, Nat.reduceLeDiff, reduceIte, reduceCtorEq, tysA, tyA, Ty.enc, Ty.encs])
      | (refine Run.condM ?_; simp -implicitDefEqProofs only [go_sem, eq_self, Nat.reduceEqDiff, Nat.reduceBEq, Nat.reduceAdd, Nat.reduceLeDiff, reduceIte, reduceCtorEq, tysA, tyA, Ty.enc, Ty.encs])))
        refine ⟨fun h => ?_, fun h => ?_⟩
        · (repeat (first
      | refine Run.seq ?_
      | refine Run.skip ?_
      | refine Run.block ?_
      | refine Run.blk ?_
      | (refine Run.exit rfl ?_)
      | (refine Run.reg mixed ?_; simp -implicitDefEqProofs only [go_sem, eq_self, Nat.reduceEqDiff, Nat.reduceBEq, Nat.reduceAdd, Nat.reduceLeDiff, reduceIte, reduceCtorEq, tysA, tyA, Ty.enc, Ty.encs])
      | (refine Run.condM ?_; simp -implicitDefEqProofs only [go_sem, eq_self, Nat.reduceEqDiff, Nat.reduceBEq, Nat.reduceAdd, Nat.reduceLeDiff, reduceIte, reduceCtorEq, tysA, tyA, Ty.enc, Ty.encs])))
          refine Run.retP g_typing_Fields (Heap.le_refl _) ?_
          simp -implicitDefEqProofs only [rs_typing_Fields, go_sem, eq_self, Nat.reduceEqDiff, Nat.reduceBEq, Nat.reduceAdd, Nat.reduceLeDiff, reduceIte, reduceCtorEq, tysA, tyA, Ty.enc, Ty.encs]
          have hno : ¬ ((l.length : Int) = dv ∧ 0 ≤ c ∧ c < dc.length) := by
            simp only [Bool.or_eq_true, bne_iff_ne, decide_eq_true_eq] at h
            omega
          rw [if_neg hno]
          rfl
        · simp only [Bool.or_eq_false_iff, bne_eq_false_iff_eq, decide_eq_false_iff_not] at h
          obtain ⟨⟨h1, h2⟩, h3⟩ := h
          have hyes : ((l.length : Int) = dv ∧ 0 ≤ c ∧ c < dc.length) := ⟨h1, by omega, by omega⟩
          obtain ⟨p, rfl⟩ := Int.eq_ofNat_of_zero_le (show 0 ≤ c by omega)
          have hlt : p < dc.length := by omega
          obtain ⟨cn, hcon⟩ : ∃ d, dc[p]? = some d := ⟨dc[p], by simp [hlt]⟩
          simp only [if_pos hyes, Int.toNat_natCast, hcon, Option.bind_some]
          have hcok : cn.ok = true := by
            simp only [Dat.ok, Bool.and_eq_true, List.all_eq_true] at hdok
            exact hdok.2 cn (List.mem_of_getElem? hcon)
          obtain ⟨cnm, al⟩ := cn
          have hal : Ty.sizes al ≤ 20 := by
            simp only [Con.ok, Bool.and_eq_true, decide_eq_true_eq] at hcok
            exact hcok.2
          have he2 := cons_at hcon
          (repeat (first
      | refine Run.seq ?_
      | refine Run.skip ?_
      | refine Run.block ?_
      | refine Run.blk ?_
      | (refine Run.exit rfl ?_)
      | (refine Run.reg mixed ?_; simp -implicitDefEqProofs only [go_sem, eq_self, Nat.reduceEqDiff, Nat.reduceBEq, Nat.reduceAdd, Nat.reduceLeDiff, reduceIte, reduceCtorEq, tysA, tyA, Ty.enc, Ty.encs])
      | (refine Run.condM ?_; simp -implicitDefEqProofs only [go_sem, eq_self, Nat.reduceEqDiff, Nat.reduceBEq, Nat.reduceAdd, Nat.reduceLeDiff, reduceIte, reduceCtorEq, tysA, tyA, Ty.enc, Ty.encs])))
          rw [encs_len]
          refine XMsl.mk l.length (by omega) (by omega) (fun j hj => ?_)
          rw [zs_flat]
          simp -implicitDefEqProofs only [go_sem, eq_self, Nat.reduceEqDiff, Nat.reduceBEq, Nat.reduceAdd, Nat.reduceLeDiff, reduceIte, reduceCtorEq, tysA, tyA, Ty.enc, Ty.encs]
          (repeat (first
      | refine Run.seq ?_
      | refine Run.skip ?_
      | refine Run.block ?_
      | refine Run.blk ?_
      | (refine Run.exit rfl ?_)
      | (refine Run.reg mixed ?_; simp -implicitDefEqProofs only [go_sem, eq_self, Nat.reduceEqDiff, Nat.reduceBEq, Nat.reduceAdd, Nat.reduceLeDiff, reduceIte, reduceCtorEq, tysA, tyA, Ty.enc, Ty.encs])
      | (refine Run.condM ?_; simp -implicitDefEqProofs only [go_sem, eq_self, Nat.reduceEqDiff, Nat.reduceBEq, Nat.reduceAdd, Nat.reduceLeDiff, reduceIte, reduceCtorEq, tysA, tyA, Ty.enc, Ty.encs])))
          refine Run.loopA ?_
          rw [encs_len]
          refine typing_Fields_sizes l kd q hsl _ [.str dn, .int .i64 dv, .sl (dc.map Con.enc)] σ j _ (fun F L h2 h4 h8 h9 hL => ?_) l.length 0 (by omega)
          subst hL
          (repeat (first
      | refine Run.seq ?_
      | refine Run.skip ?_
      | refine Run.block ?_
      | refine Run.blk ?_
      | (refine Run.exit rfl ?_)
      | (refine Run.reg mixed ?_; simp -implicitDefEqProofs only [h2, h4, h8, h9, he2, go_sem, eq_self, Nat.reduceEqDiff, Nat.reduceBEq, Nat.reduceAdd, Nat.reduceLeDiff, reduceIte, reduceCtorEq, tysA, tyA, Ty.enc, Ty.encs])
      | (refine Run.condM ?_; simp -implicitDefEqProofs only [h2, h4, h8, h9, he2, go_sem, eq_self, Nat.reduceEqDiff, Nat.reduceBEq, Nat.reduceAdd, Nat.reduceLeDiff, reduceIte, reduceCtorEq, tysA, tyA, Ty.enc, Ty.encs])))
          refine Run.loopA ?_
          rw [encs_len]
          refine typing_Fields_check l al ha hal _ [.int .i64 kd, .int .i64 q, .sl (Ty.encs l)] [.str dn, .int .i64 dv, .sl (dc.map Con.enc)] σ (σ.setBlk j (szsA l)) (le_setBlk hj) j (by simp [setBlk_get]) _ (fun hno => ?_) (fun hyes F L h2 h4 h8 hL => ?_) al.length 0 (by omega) (by simp [Ty.substs, small])
          · exact ⟨by simp only [hno, Bool.false_eq_true, if_false], rfl⟩
          subst hL
          (repeat (first
      | refine Run.seq ?_
      | refine Run.skip ?_
      | refine Run.block ?_
      | refine Run.blk ?_
      | (refine Run.exit rfl ?_)
      | (refine Run.reg mixed ?_; simp -implicitDefEqProofs only [h2, h4, h8, he2, go_sem, eq_self, Nat.reduceEqDiff, Nat.reduceBEq, Nat.reduceAdd, Nat.reduceLeDiff, reduceIte, reduceCtorEq, tysA, tyA, Ty.enc, Ty.encs])
      | (refine Run.condM ?_; simp -implicitDefEqProofs only [h2, h4, h8, he2, go_sem, eq_self, Nat.reduceEqDiff, Nat.reduceBEq, Nat.reduceAdd, Nat.reduceLeDiff, reduceIte, reduceCtorEq, tysA, tyA, Ty.enc, Ty.encs])))
          refine Run.loopA ?_
          rw [encs_len]
          refine typing_Fields_build l al ha hal _ _ _ _ (fun F L v σ' ho hF => ?_) al.length 0 (by omega) _ _ (by simpa [Ty.substs, Ty.encs] using OwnS.nil _ 25 3)
          (repeat (first
      | refine Run.seq ?_
      | refine Run.skip ?_
      | refine Run.block ?_
      | refine Run.blk ?_
      | (refine Run.exit rfl ?_)
      | (refine Run.reg mixed ?_; simp -implicitDefEqProofs only [hF, go_sem, eq_self, Nat.reduceEqDiff, Nat.reduceBEq, Nat.reduceAdd, Nat.reduceLeDiff, reduceIte, reduceCtorEq, tysA, tyA, Ty.enc, Ty.encs])
      | (refine Run.condM ?_; simp -implicitDefEqProofs only [hF, go_sem, eq_self, Nat.reduceEqDiff, Nat.reduceBEq, Nat.reduceAdd, Nat.reduceLeDiff, reduceIte, reduceCtorEq, tysA, tyA, Ty.enc, Ty.encs])))
          refine Run.retP g_typing_Fields (Heap.le_trans (le_setBlk hj) ho.le) ?_
          simp -implicitDefEqProofs only [rs_typing_Fields, hF, ho.plain, ho.noLp, ho.cell, ho.lpOf, hyes, go_sem, eq_self, Nat.reduceEqDiff, Nat.reduceBEq, Nat.reduceAdd, Nat.reduceLeDiff, reduceIte, reduceCtorEq, tysA, tyA, Ty.enc, Ty.encs]
          rfl
end Go.Ab

/- The reference's Fields. Conditions: the type and the data types keep to their guards. -/
import Derived.Test.YtbkmmfbpmnfdlaaXFe
set_option linter.unusedSimpArgs false
set_option linter.unusedVariables false
namespace Go.Ab
open Go.Proofs

theorem r6_Fields_loop (args l : List Ty) (ha : ∀ t ∈ args, t.size ≤ 250) (hl : Ty.sizes l ≤ 20) (kd nm : Int) (σ : Heap) (K : AV → Heap → Prop) {k : List CI}
    (hK : small (Ty.substs args l) = false → K (fieldsA none) σ)
    (hk : small (Ty.substs args l) = true → ∀ F L v σ', OwnS σ 25 3 (Ty.encs (Ty.substs args l)) v σ' → F 8 = v → Run x_r6_Fields K k F L σ') :
    ∀ (m i : Nat), m + i = l.length → small (Ty.substs args (l.take i)) = true → ∀ v σ', OwnS σ 25 3 (Ty.encs (Ty.substs args (l.take i))) v σ' → Run x_r6_Fields K (.again c_r6_Fields_L0 :: .blk 0 :: k)
      (put 4 (.lp 4 0) (put 8 v (put 63 (tysA l) (put 64 (.d (.int .i64 l.length)) (put 65 (.d (.int .i64 i)) U)))))
      (putL 4 [.d (.int .i64 kd), .d (.int .i64 nm), tysA args] E) σ' := by
  intro m
  have hll := len_sizes l
  induction m with
  | zero =>
    intro i hi hs v σ' ho
    refine Run.again ?_
    (repeat (first
      | refine Run.seq ?_
      | refine Run.skip ?_
      | refine Run.block ?_
      | refine Run.blk ?_
      | (refine Run.exit rfl ?_)
      | (refine Run.reg mixed ?_; simp -implicitDefEqProofs only [go_sem, eq_self, Nat.reduceEqDiff, Nat.reduceBEq, Nat.reduceAdd, Nat.reduceLeDiff, reduceIte, reduceCtorEq, tysA, tyA, Ty.enc, Ty.encs])
      | (refine Run.condM ?_; simp -implicitDefEqProofs only [go_sem, eq_self, Nat.reduceEqDiff, Nat.reduceBEq, Nat.reduceAdd, Nat.reduceLeDiff, reduceIte, reduceCtorEq, tysA, tyA, Ty.enc, Ty.encs])))
    refine ⟨fun h => ?_, fun h => ?_⟩
    · simp at h; omega
    · (repeat (first
      | refine Run.seq ?_
      | refine Run.skip ?_
      | refine Run.block ?_
      | refine Run.blk ?_
      | (refine Run.exit rfl ?_)
      | (refine Run.reg mixed ?_; simp -implicitDefEqProofs only [go_sem, eq_self, Nat.reduceEqDiff, Nat.reduceBEq, Nat.reduceAdd, Nat.reduceLeDiff, reduceIte, reduceCtorEq, tysA, tyA, Ty.enc, Ty.encs])
      | (refine Run.condM ?_; simp -implicitDefEqProofs only [go_sem, eq_self, Nat.reduceEqDiff, Nat.reduceBEq, Nat.reduceAdd, Nat.reduceLeDiff, reduceIte, reduceCtorEq, tysA, tyA, Ty.enc, Ty.encs])))
      have : l.take i = l := List.take_of_length_le (by omega)
      rw [this] at ho hs
      exact hk hs _ _ v σ' ho rfl
  | succ m ihm =>
    intro i hi hs v σ' ho
    have hlt : i < l.length := by omega
    obtain ⟨t, ht⟩ : ∃ t, l[i]? = some t := ⟨l[i], by simp [hlt]⟩
    have hs1 : l.take (i + 1) = l.take i ++ [t] := take_snoc ht
    have hsz := sizes_get ht
    have hsub := subst_size args 250 (by omega) ha t
    have hn := fun h => small_not (args := args) ht h
    have hy := fun h => small_take (args := args) ht h hs
    obtain ⟨kd', nm', al⟩ := t
    have he := encs_at ht
    refine Run.again ?_
    (repeat (first
      | refine Run.seq ?_
      | refine Run.skip ?_
      | refine Run.block ?_
      | refine Run.blk ?_
      | (refine Run.exit rfl ?_)
      | (refine Run.reg mixed ?_; simp -implicitDefEqProofs only [go_sem, eq_self, Nat.reduceEqDiff, Nat.reduceBEq, Nat.reduceAdd, Nat.reduceLeDiff, reduceIte, reduceCtorEq, tysA, tyA, Ty.enc, Ty.encs])
      | (refine Run.condM ?_; simp -implicitDefEqProofs only [go_sem, eq_self, Nat.reduceEqDiff, Nat.reduceBEq, Nat.reduceAdd, Nat.reduceLeDiff, reduceIte, reduceCtorEq, tysA, tyA, Ty.enc, Ty.encs])))
    refine ⟨fun h => ?_, fun h => ?_⟩
    · (repeat (first
      | refine Run.seq ?_
      | refine Run.skip ?_
      | refine Run.block ?_
      | refine Run.blk ?_
      | (refine Run.exit rfl ?_)
      | (refine Run.reg mixed ?_; simp -implicitDefEqProofs only [go_sem, eq_self, Nat.reduceEqDiff, Nat.reduceBEq, Nat.reduceAdd, Nat.reduceLeDiff, reduceIte, reduceCtorEq, tysA, tyA, Ty.enc, Ty.encs])
      | (refine Run.condM ?_; simp -implicitDefEqProofs only [go_sem, eq_self, Nat.reduceEqDiff, Nat.reduceBEq, Nat.reduceAdd, Nat.reduceLeDiff, reduceIte, reduceCtorEq, tysA, tyA, Ty.enc, Ty.encs])))
      simp -implicitDefEqProofs only [he, ho.lpOf, go_sem, eq_self, Nat.reduceEqDiff, Nat.reduceBEq, Nat.reduceAdd, Nat.reduceLeDiff, reduceIte, reduceCtorEq, tysA, tyA, Ty.enc, Ty.encs]
      (repeat (first
      | refine Run.seq ?_
      | refine Run.skip ?_
      | refine Run.block ?_
      | refine Run.blk ?_
      | (refine Run.exit rfl ?_)
      | (refine Run.reg mixed ?_; simp -implicitDefEqProofs only [go_sem, eq_self, Nat.reduceEqDiff, Nat.reduceBEq, Nat.reduceAdd, Nat.reduceLeDiff, reduceIte, reduceCtorEq, tysA, tyA, Ty.enc, Ty.encs])
      | (refine Run.condM ?_; simp -implicitDefEqProofs only [go_sem, eq_self, Nat.reduceEqDiff, Nat.reduceBEq, Nat.reduceAdd, Nat.reduceLeDiff, reduceIte, reduceCtorEq, tysA, tyA, Ty.enc, Ty.encs])))
      refine XCall.mk rfl (r6_Subst_ok args (fun t h => by have := ha t h; omega) 20 (.mk kd' nm' al) _ (by omega) (by omega)) ?_
      rintro v σ' ⟨rfl, rfl⟩
      generalize hu : (Ty.mk kd' nm' al).subst args = u at *
      obtain ⟨k2, n2, a2⟩ := u
      simp -implicitDefEqProofs only [ho.lpOf, go_sem, eq_self, Nat.reduceEqDiff, Nat.reduceBEq, Nat.reduceAdd, Nat.reduceLeDiff, reduceIte, reduceCtorEq, tysA, tyA, Ty.enc, Ty.encs]
      (repeat (first
      | refine Run.seq ?_
      | refine Run.skip ?_
      | refine Run.block ?_
      | refine Run.blk ?_
      | (refine Run.exit rfl ?_)
      | (refine Run.reg mixed ?_; simp -implicitDefEqProofs only [ho.lpOf, go_sem, eq_self, Nat.reduceEqDiff, Nat.reduceBEq, Nat.reduceAdd, Nat.reduceLeDiff, reduceIte, reduceCtorEq, tysA, tyA, Ty.enc, Ty.encs])
      | (refine Run.condM ?_; simp -implicitDefEqProofs only [ho.lpOf, go_sem, eq_self, Nat.reduceEqDiff, Nat.reduceBEq, Nat.reduceAdd, Nat.reduceLeDiff, reduceIte, reduceCtorEq, tysA, tyA, Ty.enc, Ty.encs])))
      refine XCall.mk rfl (r6_Size_ok 5000 (.mk k2 n2 a2) _ (by omega) (by omega)) ?_
      rintro v σ' ⟨rfl, rfl⟩
      simp -implicitDefEqProofs only [go_sem, eq_self, Nat.reduceEqDiff, Nat.reduceBEq, Nat.reduceAdd, Nat.reduceLeDiff, reduceIte, reduceCtorEq, tysA, tyA, Ty.enc, Ty.encs]
      (repeat (first
      | refine Run.seq ?_
      | refine Run.skip ?_
      | refine Run.block ?_
      | refine Run.blk ?_
      | (refine Run.exit rfl ?_)
      | (refine Run.reg mixed ?_; simp -implicitDefEqProofs only [go_sem, eq_self, Nat.reduceEqDiff, Nat.reduceBEq, Nat.reduceAdd, Nat.reduceLeDiff, reduceIte, reduceCtorEq, tysA, tyA, Ty.enc, Ty.encs])
      | (refine Run.condM ?_; simp -implicitDefEqProofs only [go_sem, eq_self, Nat.reduceEqDiff, Nat.reduceBEq, Nat.reduceAdd, Nat.reduceLeDiff, reduceIte, reduceCtorEq, tysA, tyA, Ty.enc, Ty.encs])))
      refine ⟨fun h => ?_, fun h => ?_⟩
      · simp only [decide_eq_true_eq] at h
        (repeat (first
      | refine Run.seq ?_
      | refine Run.skip ?_
      | refine Run.block ?_
      | refine Run.blk ?_
      | (refine Run.exit rfl ?_)
      | (refine Run.reg mixed ?_; simp -implicitDefEqProofs only [go_sem, eq_self, Nat.reduceEqDiff, Nat.reduceBEq, Nat.reduceAdd, Nat.reduceLeDiff, reduceIte, reduceCtorEq, tysA, tyA, Ty.enc, Ty.encs])
      | (refine Run.condM ?_; simp -implicitDefEqProofs only [go_sem, eq_self, Nat.reduceEqDiff, Nat.reduceBEq, Nat.reduceAdd, Nat.reduceLeDiff, reduceIte, reduceCtorEq, tysA, tyA, Ty.enc, Ty.encs])))
        refine Run.retP g_r6_Fields ho.le ?_
        simp -implicitDefEqProofs only [rs_r6_Fields, go_sem, eq_self, Nat.reduceEqDiff, Nat.reduceBEq, Nat.reduceAdd, Nat.reduceLeDiff, reduceIte, reduceCtorEq, tysA, tyA, Ty.enc, Ty.encs]
        exact hK (hn (by omega))
      · simp only [decide_eq_false_iff_not] at h
        (repeat (first
      | refine Run.seq ?_
      | refine Run.skip ?_
      | refine Run.block ?_
      | refine Run.blk ?_
      | (refine Run.exit rfl ?_)
      | (refine Run.reg mixed ?_; simp -implicitDefEqProofs only [go_sem, eq_self, Nat.reduceEqDiff, Nat.reduceBEq, Nat.reduceAdd, Nat.reduceLeDiff, reduceIte, reduceCtorEq, tysA, tyA, Ty.enc, Ty.encs])
      | (refine Run.condM ?_; simp -implicitDefEqProofs only [go_sem, eq_self, Nat.reduceEqDiff, Nat.reduceBEq, Nat.reduceAdd, Nat.reduceLeDiff, reduceIte, reduceCtorEq, tysA, tyA, Ty.enc, Ty.encs])))
        refine XApp.own ho rfl (by simp) (by simp [encs_len, substs_length]; omega) (by decide) (fun v2 σ2 ho2 hbk => ?_)
        simp -implicitDefEqProofs only [ho2.cells, ho2.cell, go_sem, eq_self, Nat.reduceEqDiff, Nat.reduceBEq, Nat.reduceAdd, Nat.reduceLeDiff, reduceIte, reduceCtorEq, tysA, tyA, Ty.enc, Ty.encs]
        (repeat (first
      | refine Run.seq ?_
      | refine Run.skip ?_
      | refine Run.block ?_
      | refine Run.blk ?_
      | (refine Run.exit rfl ?_)
      | (refine Run.reg mixed ?_; simp -implicitDefEqProofs only [go_sem, eq_self, Nat.reduceEqDiff, Nat.reduceBEq, Nat.reduceAdd, Nat.reduceLeDiff, reduceIte, reduceCtorEq, tysA, tyA, Ty.enc, Ty.encs])
      | (refine Run.condM ?_; simp -implicitDefEqProofs only [go_sem, eq_self, Nat.reduceEqDiff, Nat.reduceBEq, Nat.reduceAdd, Nat.reduceLeDiff, reduceIte, reduceCtorEq, tysA, tyA, Ty.enc, Ty.encs])))
        rw [wrap_succ (by omega)]
        refine ihm (i + 1) (by omega) (hy (by omega)) v2 σ2 ?_
        rw [hs1, substs_snoc, encs_append, hu]
        exact ho2
    · simp at h; omega

theorem r6_Fields_ok (data : List Dat) (t : Ty) (c : Int) (hd : datsOk data = true) (ht : t.size ≤ 250) (σ : Heap) :
    ACalls Try.prog 8 [dsA data, tyA t, .d (.int .i64 c)] σ (fun v σ' => v = fieldsA (fieldsOf data t c) ∧ σ' = σ) := by
  obtain ⟨kd, nm, l⟩ := t
  have hsl : Ty.sizes l ≤ 250 := by simp only [Ty.size] at ht; omega
  have hll := len_sizes l
  have ha : ∀ t ∈ l, t.size ≤ 250 := fun t h => by have := mem_size h; omega
  refine i_r6_Fields (by simp) ?_
  rw [argF_3]
  (repeat (first
      | refine Run.seq ?_
      | refine Run.skip ?_
      | refine Run.block ?_
      | refine Run.blk ?_
      | (refine Run.exit rfl ?_)))
  (refine Run.reg mixed ?_; simp -implicitDefEqProofs only [dsA, go_sem, eq_self, Nat.reduceEqDiff, Nat.reduceBEq, Nat.reduceAdd, Nat.reduceLeDiff, reduceIte, reduceCtorEq, tysA, tyA, Ty.enc, Ty.encs])
  (repeat (first
      | refine Run.seq ?_
      | refine Run.skip ?_
      | refine Run.block ?_
      | refine Run.blk ?_
      | (refine Run.exit rfl ?_)))
  by_cases hyes : kd = 5 ∧ 0 ≤ nm ∧ nm < data.length
  · have h1 : (kd != 5) = false := by simp [hyes.1]
    have h2 : decide (nm < 0) = false := by simp; omega
    have h3 : decide ((data.length : Int) ≤ nm) = false := by simp; omega
    obtain ⟨q, rfl⟩ := Int.eq_ofNat_of_zero_le (show 0 ≤ nm by omega)
    have hlt : q < data.length := by omega
    obtain ⟨d, hdat⟩ : ∃ d, data[q]? = some d := ⟨data[q], by simp [hlt]⟩
    have hf : fieldsOf data (.mk kd q l) c = if (l.length : Int) = d.vars ∧ 0 ≤ c ∧ c < d.cons.length then
        (d.cons[c.toNat]?).bind fun k => if small (Ty.substs l k.args) = true then some (Ty.substs l k.args) else none
      else none := by
      simp only [fieldsOf, Ty.kind, Ty.num, Ty.args, if_pos hyes, Int.toNat_natCast, hdat, Option.bind_some]
      rfl
    rw [hf]
    have hdok : d.ok = true := by
      simp only [datsOk, Bool.and_eq_true, List.all_eq_true] at hd
      exact hd.2 d (List.mem_of_getElem? hdat)
    obtain ⟨dn, dv, dc⟩ := d
    have he := dats_at hdat
    refine Run.regCut mixed (put 0 (.d (.sl (data.map Dat.enc))) (put 2 (.d (.int .i64 c)) (put 4 (.lp 4 0) (put 53 (.d (.bool (((l.length : Int) != dv) || decide (c < 0) || decide ((dc.length : Int) ≤ c)))) U))))
      (putL 4 [.d (.int .i64 kd), .d (.int .i64 q), tysA l] E) σ ?_ ?_
    · cases h4 : ((l.length : Int) != dv)
      · cases h5 : decide (c < 0)
        · simp -implicitDefEqProofs only [h1, h2, h3, he, h4, h5, List.length_map, encs_len, go_sem, eq_self, Nat.reduceEqDiff, Nat.reduceBEq, Nat.reduceAdd, Nat.reduceLeDiff, reduceIte, reduceCtorEq, tysA, tyA, Ty.enc, Ty.encs]
        · simp -implicitDefEqProofs only [h1, h2, h3, he, h4, h5, List.length_map, encs_len, go_sem, eq_self, Nat.reduceEqDiff, Nat.reduceBEq, Nat.reduceAdd, Nat.reduceLeDiff, reduceIte, reduceCtorEq, tysA, tyA, Ty.enc, Ty.encs]
      · simp -implicitDefEqProofs only [h1, h2, h3, he, h4, List.length_map, encs_len, go_sem, eq_self, Nat.reduceEqDiff, Nat.reduceBEq, Nat.reduceAdd, Nat.reduceLeDiff, reduceIte, reduceCtorEq, tysA, tyA, Ty.enc, Ty.encs]
    · (repeat (first
      | refine Run.seq ?_
      | refine Run.skip ?_
      | refine Run.block ?_
      | refine Run.blk ?_
      | (refine Run.exit rfl ?_)
      | (refine Run.reg mixed ?_; simp -implicitDefEqProofs only [go_sem, eq_self, Nat.reduceEqDiff, Nat.reduceBEq, Nat.reduceAdd, Nat.reduceLeDiff, reduceIte, reduceCtorEq, tysA, tyA, Ty.enc, Ty.encs])
      | (refine Run.condM ?_; simp -implicitDefEqProofs only [go_sem, eq_self, Nat.reduceEqDiff, Nat.reduceBEq, Nat.reduceAdd, Nat.reduceLeDiff, reduceIte, reduceCtorEq, tysA, tyA, Ty.enc, Ty.encs])))
      refine ⟨fun h => ?_, fun h => ?_⟩
      · (repeat (first
      | refine Run.seq ?_
      | refine Run.skip ?_
      | refine Run.block ?_
      | refine Run.blk ?_
      | (refine Run.exit rfl ?_)
      | (refine Run.reg mixed ?_; simp -implicitDefEqProofs only [go_sem, eq_self, Nat.reduceEqDiff, Nat.reduceBEq, Nat.reduceAdd, Nat.reduceLeDiff, reduceIte, reduceCtorEq, tysA, tyA, Ty.enc, Ty.encs])
      | (refine Run.condM ?_; simp -implicitDefEqProofs only [go_sem, eq_self, Nat.reduceEqDiff, Nat.reduceBEq, Nat.reduceAdd, Nat.reduceLeDiff, reduceIte, reduceCtorEq, tysA, tyA, Ty.enc, Ty.encs])))
        refine Run.retP g_r6_Fields (Heap.le_refl _) ?_
        simp -implicitDefEqProofs only [rs_r6_Fields, go_sem, eq_self, Nat.reduceEqDiff, Nat.reduceBEq, Nat.reduceAdd, Nat.reduceLeDiff, reduceIte, reduceCtorEq, tysA, tyA, Ty.enc, Ty.encs]
        have hno : ¬ ((l.length : Int) = dv ∧ 0 ≤ c ∧ c < dc.length) := by
          simp only [Bool.or_eq_true, bne_iff_ne, decide_eq_true_eq] at h
          omega
        rw [if_neg hno]
        rfl
      · simp only [Bool.or_eq_false_iff, bne_eq_false_iff_eq, decide_eq_false_iff_not] at h
        obtain ⟨⟨h1, h2⟩, h3⟩ := h
        have hyes : ((l.length : Int) = dv ∧ 0 ≤ c ∧ c < dc.length) := ⟨h1, by omega, by omega⟩
        obtain ⟨p, rfl⟩ := Int.eq_ofNat_of_zero_le (show 0 ≤ c by omega)
        have hlt : p < dc.length := by omega
        obtain ⟨cn, hcon⟩ : ∃ d, dc[p]? = some d := ⟨dc[p], by simp [hlt]⟩
        simp only [if_pos hyes, Int.toNat_natCast, hcon, Option.bind_some]
        have hcok : cn.ok = true := by
          simp only [Dat.ok, Bool.and_eq_true, List.all_eq_true] at hdok
          exact hdok.2 cn (List.mem_of_getElem? hcon)
        obtain ⟨cnm, al⟩ := cn
        have hal : Ty.sizes al ≤ 20 := by
          simp only [Con.ok, Bool.and_eq_true, decide_eq_true_eq] at hcok
          exact hcok.2
        have he2 := cons_at hcon
        (repeat (first
      | refine Run.seq ?_
      | refine Run.skip ?_
      | refine Run.block ?_
      | refine Run.blk ?_
      | (refine Run.exit rfl ?_)
      | (refine Run.reg mixed ?_; simp -implicitDefEqProofs only [he, he2, go_sem, eq_self, Nat.reduceEqDiff, Nat.reduceBEq, Nat.reduceAdd, Nat.reduceLeDiff, reduceIte, reduceCtorEq, tysA, tyA, Ty.enc, Ty.encs])
      | (refine Run.condM ?_; simp -implicitDefEqProofs only [he, he2, go_sem, eq_self, Nat.reduceEqDiff, Nat.reduceBEq, Nat.reduceAdd, Nat.reduceLeDiff, reduceIte, reduceCtorEq, tysA, tyA, Ty.enc, Ty.encs])))
        refine Run.loopA ?_
        rw [encs_len]
        refine r6_Fields_loop l al ha hal _ _ σ _ (fun hno => ?_) (fun hyes F L v σ' ho hF => ?_) al.length 0 (by omega) (by simp [Ty.substs, small]) _ _ (by simpa [Ty.substs, Ty.encs] using OwnS.nil _ 25 3)
        · exact ⟨by simp only [hno, Bool.false_eq_true, if_false], rfl⟩
        · (repeat (first
      | refine Run.seq ?_
      | refine Run.skip ?_
      | refine Run.block ?_
      | refine Run.blk ?_
      | (refine Run.exit rfl ?_)
      | (refine Run.reg mixed ?_; simp -implicitDefEqProofs only [hF, go_sem, eq_self, Nat.reduceEqDiff, Nat.reduceBEq, Nat.reduceAdd, Nat.reduceLeDiff, reduceIte, reduceCtorEq, tysA, tyA, Ty.enc, Ty.encs])
      | (refine Run.condM ?_; simp -implicitDefEqProofs only [hF, go_sem, eq_self, Nat.reduceEqDiff, Nat.reduceBEq, Nat.reduceAdd, Nat.reduceLeDiff, reduceIte, reduceCtorEq, tysA, tyA, Ty.enc, Ty.encs])))
          refine Run.retP g_r6_Fields ho.le ?_
          simp -implicitDefEqProofs only [rs_r6_Fields, hF, ho.plain, ho.noLp, ho.cell, ho.lpOf, hyes, go_sem, eq_self, Nat.reduceEqDiff, Nat.reduceBEq, Nat.reduceAdd, Nat.reduceLeDiff, reduceIte, reduceCtorEq, tysA, tyA, Ty.enc, Ty.encs]
          rfl
  · have e : fieldsOf data (.mk kd nm l) c = none := by unfold fieldsOf; exact if_neg hyes
    rw [e]
    cases h1 : (kd != 5)
    · cases h2 : decide (nm < 0)
      · have h3 : decide ((data.length : Int) ≤ nm) = true := by
          simp only [bne_eq_false_iff_eq, decide_eq_false_iff_not] at h1 h2
          simp only [decide_eq_true_eq]
          omega
        (repeat (first
      | refine Run.seq ?_
      | refine Run.skip ?_
      | refine Run.block ?_
      | refine Run.blk ?_
      | (refine Run.exit rfl ?_)
      | (refine Run.reg mixed ?_; simp -implicitDefEqProofs only [h1, h2, List.length_map, h3, true_imp_iff, false_imp_iff, go_sem, eq_self, Nat.reduceEqDiff, Nat.reduceBEq, Nat.reduceAdd, Nat.reduceLeDiff, reduceIte, reduceCtorEq, tysA, tyA, Ty.enc, Ty.encs])
      | (refine Run.condM ?_; simp -implicitDefEqProofs only [h1, h2, List.length_map, h3, true_imp_iff, false_imp_iff, go_sem, eq_self, Nat.reduceEqDiff, Nat.reduceBEq, Nat.reduceAdd, Nat.reduceLeDiff, reduceIte, reduceCtorEq, tysA, tyA, Ty.enc, Ty.encs])))
        refine Run.retP g_r6_Fields (Heap.le_refl _) ?_
        simp -implicitDefEqProofs only [rs_r6_Fields, go_sem, eq_self, Nat.reduceEqDiff, Nat.reduceBEq, Nat.reduceAdd, Nat.reduceLeDiff, reduceIte, reduceCtorEq, tysA, tyA, Ty.enc, Ty.encs]
        rfl
      · (repeat (first
      | refine Run.seq ?_
      | refine Run.skip ?_
      | refine Run.block ?_
      | refine Run.blk ?_
      | (refine Run.exit rfl ?_)
      | (refine Run.reg mixed ?_; simp -implicitDefEqProofs only [h1, h2, true_imp_iff, false_imp_iff, go_sem, eq_self, Nat.reduceEqDiff, Nat.reduceBEq, Nat.reduceAdd, Nat.reduceLeDiff, reduceIte, reduceCtorEq, tysA, tyA, Ty.enc, Ty.encs])
      | (refine Run.condM ?_; simp -implicitDefEqProofs only [h1, h2, true_imp_iff, false_imp_iff, go_sem, eq_self, Nat.reduceEqDiff, Nat.reduceBEq, Nat.reduceAdd, Nat.reduceLeDiff, reduceIte, reduceCtorEq, tysA, tyA, Ty.enc, Ty.encs])))
        refine Run.retP g_r6_Fields (Heap.le_refl _) ?_
        simp -implicitDefEqProofs only [rs_r6_Fields, go_sem, eq_self, Nat.reduceEqDiff, Nat.reduceBEq, Nat.reduceAdd, Nat.reduceLeDiff, reduceIte, reduceCtorEq, tysA, tyA, Ty.enc, Ty.encs]
        rfl
    · (repeat (first
      | refine Run.seq ?_
      | refine Run.skip ?_
      | refine Run.block ?_
      | refine Run.blk ?_
      | (refine Run.exit rfl ?_)
      | (refine Run.reg mixed ?_; simp -implicitDefEqProofs only [h1, true_imp_iff, false_imp_iff, go_sem, eq_self, Nat.reduceEqDiff, Nat.reduceBEq, Nat.reduceAdd, Nat.reduceLeDiff, reduceIte, reduceCtorEq, tysA, tyA, Ty.enc, Ty.encs])
      | (refine Run.condM ?_; simp -implicitDefEqProofs only [h1, true_imp_iff, false_imp_iff, go_sem, eq_self, Nat.reduceEqDiff, Nat.reduceBEq, Nat.reduceAdd, Nat.reduceLeDiff, reduceIte, reduceCtorEq, tysA, tyA, Ty.enc, Ty.encs])))
      refine Run.retP g_r6_Fields (Heap.le_refl _) ?_
      simp -implicitDefEqProofs only [rs_r6_Fields, go_sem, eq_self, Nat.reduceEqDiff, Nat.reduceBEq, Nat.reduceAdd, Nat.reduceLeDiff, reduceIte, reduceCtorEq, tysA, tyA, Ty.enc, Ty.encs]
      rfl
end Go.Ab
